/- Written by xprint.py, a program of this session: what functions of the program answer, each by a walk of its code; no condition beside those in the statements. -/
import Derived.Test.YtffkgdaookidbaaXNx0
namespace Go.Proofs.Ytffkgdaookidbaa.XNx
open Go.RowKit Go.Proofs.YtffkgdaookidbaaW.PrintWords Go.Proofs.YtffkgdaookidbaaW.PrintLast Go.Proofs.YtffkgdaookidbaaW.PrintMore
attribute [local go_sem] max2_int min2_int max_two min_two max_three min_three max_four min_four   -- for this text's walks alone
open Go.Proofs.Ytffkgdaookidbaa.XW
set_option linter.unusedVariables false
set_option linter.unusedSimpArgs false

/-! ### dasdref20_IsNode: function 11 -/
mutual
def dasdref20_IsNode.j0 : Nat → Bool → Int → Int → List (S32) → Option (Bool)
  | 0, _, _, _, _ => none
  | k + 1, x35, x214000, x214001, x214002 => if x35 = true then (some false) else (dasdref20_IsNode.l0 k 0 x214000 x214001 x214002)
def dasdref20_IsNode.l0 : Nat → Int → Int → Int → List (S32) → Option (Bool)
  | 0, _, _, _, _ => none
  | k + 1, x3, x214000, x214001, x214002 => if x3 < (x214002.length : Int) then (if 0 ≤ x3 then (if ((rd_T32 x214002 x3).f1) < 1 then (dasdref20_IsNode.j2 k x3 (x3 == (wrap64 ((x214002.length : Int) - 1))) true x214000 x214001 x214002 ((rd_T32 x214002 x3).f0) ((rd_T32 x214002 x3).f1)) else (if ((rd_T32 x214002 x3).f1) > 16777216 then (dasdref20_IsNode.j2 k x3 (x3 == (wrap64 ((x214002.length : Int) - 1))) true x214000 x214001 x214002 ((rd_T32 x214002 x3).f0) ((rd_T32 x214002 x3).f1)) else (if (((rd_T32 x214002 x3).f0).size : Int) > 32 then (dasdref20_IsNode.j2 k x3 (x3 == (wrap64 ((x214002.length : Int) - 1))) true x214000 x214001 x214002 ((rd_T32 x214002 x3).f0) ((rd_T32 x214002 x3).f1)) else (dasdref20_IsNode.j2 k x3 (x3 == (wrap64 ((x214002.length : Int) - 1))) ((((rd_T32 x214002 x3).f0).toList == ([] : List UInt8)) != (x3 == (wrap64 ((x214002.length : Int) - 1)))) x214000 x214001 x214002 ((rd_T32 x214002 x3).f0) ((rd_T32 x214002 x3).f1))))) else (none)) else (some true)
def dasdref20_IsNode.j2 : Nat → Int → Bool → Bool → Int → Int → List (S32) → ByteArray → Int → Option (Bool)
  | 0, _, _, _, _, _, _, _, _ => none
  | k + 1, x3, x5, x74, x214000, x214001, x214002, x216000, x216001 => if x74 = true then (some false) else (if x3 > 0 then (if x5 = true then (dasdref20_IsNode.l0 k (wrap64 (x3 + 1)) x214000 x214001 x214002) else (if 0 ≤ (wrap64 (x3 - 1)) then (if (wrap64 (x3 - 1)) < (x214002.length : Int) then (if ((Op.bytesLess (((rd_T32 x214002 (wrap64 (x3 - 1))).f0).toList) x216000.toList) = true) then (dasdref20_IsNode.l0 k (wrap64 (x3 + 1)) x214000 x214001 x214002) else (some false)) else (none)) else (none))) else (dasdref20_IsNode.l0 k (wrap64 (x3 + 1)) x214000 x214001 x214002))
end
def dasdref20_IsNode.f (k : Nat) (a0_0 : Int) (a0_1 : Int) (l0_2 : List (S32)) : Option (Bool) := if (l0_2.length : Int) < 1 then (dasdref20_IsNode.j0 k true a0_0 a0_1 l0_2) else (if (l0_2.length : Int) > 120 then (dasdref20_IsNode.j0 k true a0_0 a0_1 l0_2) else (if a0_0 < 0 then (dasdref20_IsNode.j0 k true a0_0 a0_1 l0_2) else (if a0_0 > 6 then (dasdref20_IsNode.j0 k true a0_0 a0_1 l0_2) else (if a0_1 < 0 then (dasdref20_IsNode.j0 k true a0_0 a0_1 l0_2) else (dasdref20_IsNode.j0 k (decide (a0_1 > 16777216)) a0_0 a0_1 l0_2)))))
theorem dasdref20_IsNode.mono_l : ∀ k, (∀ y0 y1 y2 y3, LeO (dasdref20_IsNode.j0 k y0 y1 y2 y3) (dasdref20_IsNode.j0 (k + 1) y0 y1 y2 y3)) ∧ (∀ y0 y1 y2 y3, LeO (dasdref20_IsNode.l0 k y0 y1 y2 y3) (dasdref20_IsNode.l0 (k + 1) y0 y1 y2 y3)) ∧ (∀ y0 y1 y2 y3 y4 y5 y6 y7, LeO (dasdref20_IsNode.j2 k y0 y1 y2 y3 y4 y5 y6 y7) (dasdref20_IsNode.j2 (k + 1) y0 y1 y2 y3 y4 y5 y6 y7))
  | 0 => ⟨fun _ _ _ _ r h => by simp [dasdref20_IsNode.j0] at h, fun _ _ _ _ r h => by simp [dasdref20_IsNode.l0] at h, fun _ _ _ _ _ _ _ _ r h => by simp [dasdref20_IsNode.j2] at h⟩
  | k + 1 => by
    obtain ⟨ih0, ih1, ih2⟩ := dasdref20_IsNode.mono_l k
    refine ⟨?_, ?_, ?_⟩
    · intro y0 y1 y2 y3
      unfold dasdref20_IsNode.j0
      repeat' first
      | (with_reducible exact ih0 _ _ _ _)
      | (with_reducible exact ih1 _ _ _ _)
      | (with_reducible exact ih2 _ _ _ _ _ _ _ _)
      | (with_reducible exact LeO.refl _)
      | (with_reducible exact LeO.none _)
      | (with_reducible refine LeO.ite ?_ ?_)
      | (with_reducible refine LeO.bind ?_ (fun _ => ?_))
      | exact ih0 _ _ _ _
      | exact ih1 _ _ _ _
      | exact ih2 _ _ _ _ _ _ _ _
      | exact LeO.none _
      | refine LeO.ite ?_ ?_
      | refine LeO.bind ?_ (fun _ => ?_)
    · intro y0 y1 y2 y3
      unfold dasdref20_IsNode.l0
      repeat' first
      | (with_reducible exact ih0 _ _ _ _)
      | (with_reducible exact ih1 _ _ _ _)
      | (with_reducible exact ih2 _ _ _ _ _ _ _ _)
      | (with_reducible exact LeO.refl _)
      | (with_reducible exact LeO.none _)
      | (with_reducible refine LeO.ite ?_ ?_)
      | (with_reducible refine LeO.bind ?_ (fun _ => ?_))
      | exact ih0 _ _ _ _
      | exact ih1 _ _ _ _
      | exact ih2 _ _ _ _ _ _ _ _
      | exact LeO.none _
      | refine LeO.ite ?_ ?_
      | refine LeO.bind ?_ (fun _ => ?_)
    · intro y0 y1 y2 y3 y4 y5 y6 y7
      unfold dasdref20_IsNode.j2
      repeat' first
      | (with_reducible exact ih0 _ _ _ _)
      | (with_reducible exact ih1 _ _ _ _)
      | (with_reducible exact ih2 _ _ _ _ _ _ _ _)
      | (with_reducible exact LeO.refl _)
      | (with_reducible exact LeO.none _)
      | (with_reducible refine LeO.ite ?_ ?_)
      | (with_reducible refine LeO.bind ?_ (fun _ => ?_))
      | exact ih0 _ _ _ _
      | exact ih1 _ _ _ _
      | exact ih2 _ _ _ _ _ _ _ _
      | exact LeO.none _
      | refine LeO.ite ?_ ?_
      | refine LeO.bind ?_ (fun _ => ?_)
theorem dasdref20_IsNode.mono : ∀ a0 a1 a2 k, LeO (dasdref20_IsNode.f k a0 a1 a2) (dasdref20_IsNode.f (k + 1) a0 a1 a2) := by
  intro a0 a1 a2 k
  obtain ⟨ih0, ih1, ih2⟩ := dasdref20_IsNode.mono_l k
  unfold dasdref20_IsNode.f
  repeat' first
      | (with_reducible exact ih0 _ _ _ _)
      | (with_reducible exact ih1 _ _ _ _)
      | (with_reducible exact ih2 _ _ _ _ _ _ _ _)
      | (with_reducible exact LeO.refl _)
      | (with_reducible exact LeO.none _)
      | (with_reducible refine LeO.ite ?_ ?_)
      | (with_reducible refine LeO.bind ?_ (fun _ => ?_))
      | exact ih0 _ _ _ _
      | exact ih1 _ _ _ _
      | exact ih2 _ _ _ _ _ _ _ _
      | exact LeO.none _
      | refine LeO.ite ?_ ?_
      | refine LeO.bind ?_ (fun _ => ?_)
set_option maxHeartbeats 8000000 in
set_option maxRecDepth 100000 in
theorem dasdref20_IsNode.calls (k : Nat) (a0_0 : Int) (a0_1 : Int) (A0_2 : Option Addr) (c0_2 : Nat) (l0_2 : List (S32)) (r : Bool) (w : World) (hr0_2 : Kd.C k32 w A0_2 l0_2.length l0_2) (hc0_2 : l0_2.length ≤ c0_2) (h : dasdref20_IsNode.f k a0_0 a0_1 l0_2 = some r) :
    Calls Try.prog 11 #[.agg #[.int .i64 a0_0, .int .i64 a0_1, .slice A0_2 l0_2.length c0_2]] w fun e w' => e = .returned (.bool r) ∧ Below w.heap.size w w' := by
  have hu24 := Try.underlying24
  have hu32 := Try.underlying32
  have HR0_2 := Aside0.mk hr0_2
  have HC0_2 := Aside0.mk hc0_2
  clear hr0_2 hc0_2
  have HB := Aside0.mk (Below.refl w.heap.size w)
  have H : (if (l0_2.length : Int) < 1 then (dasdref20_IsNode.j0 k true a0_0 a0_1 l0_2) else (if (l0_2.length : Int) > 120 then (dasdref20_IsNode.j0 k true a0_0 a0_1 l0_2) else (if a0_0 < 0 then (dasdref20_IsNode.j0 k true a0_0 a0_1 l0_2) else (if a0_0 > 6 then (dasdref20_IsNode.j0 k true a0_0 a0_1 l0_2) else (if a0_1 < 0 then (dasdref20_IsNode.j0 k true a0_0 a0_1 l0_2) else (dasdref20_IsNode.j0 k (decide (a0_1 > 16777216)) a0_0 a0_1 l0_2)))))) = some r := h
  clear h
  have HC2 := Aside0.mk H
  clear H
  go_enter Try.func11, Try.ntmps11
  go_upto_region 1 with (first | ((with_reducible refine gate_dst (N := 1) rfl ?_); (try (refine gate_guard (by rfl) ?_; dsimp only)); refine box_event ?hg (N := 1) ?hd (cs := #[.int .i64 a0_0, .int .i64 a0_1, .slice A0_2 l0_2.length c0_2]) (t := 24) ?hr ?_; (case hd => rfl); (case hg => rfl); (case hr => first | (go_simp; done) | (go_simp; rfl)); intro gb213 hg w3 hbox hb; have n0_ := Aside0.mk (below_step (by repeat (first | (with_reducible first | exact HB.out | apply below_alloc | apply pw_below_drewN | apply below_drew1) | exact HB.out)) hb); have n1_ := Aside0.mk (hbox); have n2_ := Aside0.mk ((by rw [hg]; exact (below_size (by repeat (first | (with_reducible first | exact HB.out | apply below_alloc | apply pw_below_drewN | apply below_drew1) | exact HB.out))) : w.heap.size ≤ gb213)); have n3_ := Aside0.mk ((by rw [hg]; exact (below_size (by repeat (first | (with_reducible first | exact HB.out | apply below_alloc | apply pw_below_drewN | apply below_drew1) | exact HB.out))) : w.heap.size ≤ gb213)); clear HB; have HB := n0_; have BK213 := n1_; have GW213 := n2_; have GE213 := n3_; clear n0_ n1_ n2_ n3_; clear hb hbox hg))
  repeat (go_quiet (first | ((with_reducible refine gate_dst (N := 1) rfl ?_); (try (refine gate_guard (by rfl) ?_; dsimp only)); refine box_event ?hg (N := 1) ?hd (cs := #[.int .i64 a0_0, .int .i64 a0_1, .slice A0_2 l0_2.length c0_2]) (t := 24) ?hr ?_; (case hd => rfl); (case hg => rfl); (case hr => first | (go_simp; done) | (go_simp; rfl)); intro gb213 hg w3 hbox hb; have n0_ := Aside0.mk (below_step (by repeat (first | (with_reducible first | exact HB.out | apply below_alloc | apply pw_below_drewN | apply below_drew1) | exact HB.out)) hb); have n1_ := Aside0.mk (hbox); have n2_ := Aside0.mk ((by rw [hg]; exact (below_size (by repeat (first | (with_reducible first | exact HB.out | apply below_alloc | apply pw_below_drewN | apply below_drew1) | exact HB.out))) : w.heap.size ≤ gb213)); have n3_ := Aside0.mk ((by rw [hg]; exact (below_size (by repeat (first | (with_reducible first | exact HB.out | apply below_alloc | apply pw_below_drewN | apply below_drew1) | exact HB.out))) : w.heap.size ≤ gb213)); clear HB; have HB := n0_; have BK213 := n1_; have GW213 := n2_; have GE213 := n3_; clear n0_ n1_ n2_ n3_; clear hb hbox hg)); go_upto_region 1 with (first | ((with_reducible refine gate_dst (N := 1) rfl ?_); (try (refine gate_guard (by rfl) ?_; dsimp only)); refine box_event ?hg (N := 1) ?hd (cs := #[.int .i64 a0_0, .int .i64 a0_1, .slice A0_2 l0_2.length c0_2]) (t := 24) ?hr ?_; (case hd => rfl); (case hg => rfl); (case hr => first | (go_simp; done) | (go_simp; rfl)); intro gb213 hg w3 hbox hb; have n0_ := Aside0.mk (below_step (by repeat (first | (with_reducible first | exact HB.out | apply below_alloc | apply pw_below_drewN | apply below_drew1) | exact HB.out)) hb); have n1_ := Aside0.mk (hbox); have n2_ := Aside0.mk ((by rw [hg]; exact (below_size (by repeat (first | (with_reducible first | exact HB.out | apply below_alloc | apply pw_below_drewN | apply below_drew1) | exact HB.out))) : w.heap.size ≤ gb213)); have n3_ := Aside0.mk ((by rw [hg]; exact (below_size (by repeat (first | (with_reducible first | exact HB.out | apply below_alloc | apply pw_below_drewN | apply below_drew1) | exact HB.out))) : w.heap.size ≤ gb213)); clear HB; have HB := n0_; have BK213 := n1_; have GW213 := n2_; have GE213 := n3_; clear n0_ n1_ n2_ n3_; clear hb hbox hg)))
  (try simp only [Act.put, List.setIfInBounds_toArray, List.set_cons_zero, List.set_cons_succ])
  go_cut [35] (fun v35 wc => ∃ (kq : Nat) (x35_1 : Bool), v35 = .bool x35_1 ∧ Aside0 (dasdref20_IsNode.j0 kq x35_1 a0_0 a0_1 l0_2 = some r) ∧ Aside0 (kq ≤ k) ∧ Aside0 (wc.heap[gb213]? = some (.cells #[.int .i64 a0_0, .int .i64 a0_1, (.slice A0_2 l0_2.length c0_2)] 24 (0, 0))) ∧ Aside0 (Below w.heap.size w wc))
  case first =>
    have H := HC2.out
    clear HC2
    by_cases c4 : (l0_2.length : Int) < 1
    · rw [if_pos c4] at H
      have c4b0 : decide ((l0_2.length : Int) < 1) = true := decide_eq_true c4
      have c4b1 : decide (l0_2.length < 1) = true := decide_eq_true (by omega)
      clear c4
      (first | rw [c4b0] | (simp only [i64_w, i32_w]; rw [c4b0]) | skip)
      have H' := Aside0.mk H
      clear H
      have hcz5_0 : w3.cell? ⟨gb213, 0, none⟩ = some (.int .i64 a0_0) := (blk_cell BK213.out 0).trans rfl
      have hcz5_1 : w3.cell? ⟨gb213, 1, none⟩ = some (.int .i64 a0_1) := (blk_cell BK213.out 1).trans rfl
      have hcz5_2 : w3.cell? ⟨gb213, 2, none⟩ = some (.slice A0_2 l0_2.length c0_2) := (blk_cell BK213.out 2).trans rfl
      have hfz5_0 := blk_frozen BK213.out 0
      have hfz5_1 := blk_frozen BK213.out 1
      have hfz5_2 := blk_frozen BK213.out 2
      go_wp2
      repeat (go_quiet (fail); try go_wp2)
      go_meet
      case rel => exact ⟨_, (true), (by first | rfl | (simp; done) | (simp [*]; done) | (simp; exact beq_bnot2 _ _) | (simp [*]; exact beq_bnot2 _ _)), H', ⟨by first | omega | exact Nat.le_refl _⟩, ⟨by (with_reducible repeat (first | refine blk_drewN ?_ _ | refine blk_drew ?_ | refine blk_alloc ?_ _)); exact BK213.out⟩, ⟨by repeat (first | (with_reducible first | exact HB.out | apply below_alloc | apply pw_below_drewN | apply below_drew1 | refine below_set ?_ GE213.out) | exact HB.out)⟩⟩
    · rw [if_neg c4] at H
      have c4b0 : decide ((l0_2.length : Int) < 1) = false := decide_eq_false c4
      have c4b1 : decide (l0_2.length < 1) = false := decide_eq_false (by omega)
      clear c4
      (first | rw [c4b0] | (simp only [i64_w, i32_w]; rw [c4b0]) | skip)
      by_cases c6 : (l0_2.length : Int) > 120
      · rw [if_pos c6] at H
        have c6b0 : decide (120 < (l0_2.length : Int)) = true := decide_eq_true c6
        have c6b1 : decide (120 < l0_2.length) = true := decide_eq_true (by omega)
        clear c6
        have H' := Aside0.mk H
        clear H
        have hcz7_0 : w3.cell? ⟨gb213, 0, none⟩ = some (.int .i64 a0_0) := (blk_cell BK213.out 0).trans rfl
        have hcz7_1 : w3.cell? ⟨gb213, 1, none⟩ = some (.int .i64 a0_1) := (blk_cell BK213.out 1).trans rfl
        have hcz7_2 : w3.cell? ⟨gb213, 2, none⟩ = some (.slice A0_2 l0_2.length c0_2) := (blk_cell BK213.out 2).trans rfl
        have hfz7_0 := blk_frozen BK213.out 0
        have hfz7_1 := blk_frozen BK213.out 1
        have hfz7_2 := blk_frozen BK213.out 2
        go_wp2
        repeat (go_quiet (fail); try go_wp2)
        go_meet
        case rel => exact ⟨_, (true), (by first | rfl | (simp; done) | (simp [*]; done) | (simp; exact beq_bnot2 _ _) | (simp [*]; exact beq_bnot2 _ _)), H', ⟨by first | omega | exact Nat.le_refl _⟩, ⟨by (with_reducible repeat (first | refine blk_drewN ?_ _ | refine blk_drew ?_ | refine blk_alloc ?_ _)); exact BK213.out⟩, ⟨by repeat (first | (with_reducible first | exact HB.out | apply below_alloc | apply pw_below_drewN | apply below_drew1 | refine below_set ?_ GE213.out) | exact HB.out)⟩⟩
      · rw [if_neg c6] at H
        have c6b0 : decide (120 < (l0_2.length : Int)) = false := decide_eq_false c6
        have c6b1 : decide (120 < l0_2.length) = false := decide_eq_false (by omega)
        clear c6
        by_cases c8 : a0_0 < 0
        · rw [if_pos c8] at H
          have c8b0 : decide (a0_0 < 0) = true := decide_eq_true c8
          clear c8
          have H' := Aside0.mk H
          clear H
          have hcz9_0 : w3.cell? ⟨gb213, 0, none⟩ = some (.int .i64 a0_0) := (blk_cell BK213.out 0).trans rfl
          have hcz9_1 : w3.cell? ⟨gb213, 1, none⟩ = some (.int .i64 a0_1) := (blk_cell BK213.out 1).trans rfl
          have hcz9_2 : w3.cell? ⟨gb213, 2, none⟩ = some (.slice A0_2 l0_2.length c0_2) := (blk_cell BK213.out 2).trans rfl
          have hfz9_0 := blk_frozen BK213.out 0
          have hfz9_1 := blk_frozen BK213.out 1
          have hfz9_2 := blk_frozen BK213.out 2
          go_wp2
          repeat (go_quiet (fail); try go_wp2)
          go_meet
          case rel => exact ⟨_, (true), (by first | rfl | (simp; done) | (simp [*]; done) | (simp; exact beq_bnot2 _ _) | (simp [*]; exact beq_bnot2 _ _)), H', ⟨by first | omega | exact Nat.le_refl _⟩, ⟨by (with_reducible repeat (first | refine blk_drewN ?_ _ | refine blk_drew ?_ | refine blk_alloc ?_ _)); exact BK213.out⟩, ⟨by repeat (first | (with_reducible first | exact HB.out | apply below_alloc | apply pw_below_drewN | apply below_drew1 | refine below_set ?_ GE213.out) | exact HB.out)⟩⟩
        · rw [if_neg c8] at H
          have c8b0 : decide (a0_0 < 0) = false := decide_eq_false c8
          clear c8
          by_cases c10 : a0_0 > 6
          · rw [if_pos c10] at H
            have c10b0 : decide (6 < a0_0) = true := decide_eq_true c10
            clear c10
            have H' := Aside0.mk H
            clear H
            have hcz11_0 : w3.cell? ⟨gb213, 0, none⟩ = some (.int .i64 a0_0) := (blk_cell BK213.out 0).trans rfl
            have hcz11_1 : w3.cell? ⟨gb213, 1, none⟩ = some (.int .i64 a0_1) := (blk_cell BK213.out 1).trans rfl
            have hcz11_2 : w3.cell? ⟨gb213, 2, none⟩ = some (.slice A0_2 l0_2.length c0_2) := (blk_cell BK213.out 2).trans rfl
            have hfz11_0 := blk_frozen BK213.out 0
            have hfz11_1 := blk_frozen BK213.out 1
            have hfz11_2 := blk_frozen BK213.out 2
            go_wp2
            repeat (go_quiet (fail); try go_wp2)
            go_meet
            case rel => exact ⟨_, (true), (by first | rfl | (simp; done) | (simp [*]; done) | (simp; exact beq_bnot2 _ _) | (simp [*]; exact beq_bnot2 _ _)), H', ⟨by first | omega | exact Nat.le_refl _⟩, ⟨by (with_reducible repeat (first | refine blk_drewN ?_ _ | refine blk_drew ?_ | refine blk_alloc ?_ _)); exact BK213.out⟩, ⟨by repeat (first | (with_reducible first | exact HB.out | apply below_alloc | apply pw_below_drewN | apply below_drew1 | refine below_set ?_ GE213.out) | exact HB.out)⟩⟩
          · rw [if_neg c10] at H
            have c10b0 : decide (6 < a0_0) = false := decide_eq_false c10
            clear c10
            by_cases c12 : a0_1 < 0
            · rw [if_pos c12] at H
              have c12b0 : decide (a0_1 < 0) = true := decide_eq_true c12
              clear c12
              have H' := Aside0.mk H
              clear H
              have hcz13_0 : w3.cell? ⟨gb213, 0, none⟩ = some (.int .i64 a0_0) := (blk_cell BK213.out 0).trans rfl
              have hcz13_1 : w3.cell? ⟨gb213, 1, none⟩ = some (.int .i64 a0_1) := (blk_cell BK213.out 1).trans rfl
              have hcz13_2 : w3.cell? ⟨gb213, 2, none⟩ = some (.slice A0_2 l0_2.length c0_2) := (blk_cell BK213.out 2).trans rfl
              have hfz13_0 := blk_frozen BK213.out 0
              have hfz13_1 := blk_frozen BK213.out 1
              have hfz13_2 := blk_frozen BK213.out 2
              go_wp2
              repeat (go_quiet (fail); try go_wp2)
              go_meet
              case rel => exact ⟨_, (true), (by first | rfl | (simp; done) | (simp [*]; done) | (simp; exact beq_bnot2 _ _) | (simp [*]; exact beq_bnot2 _ _)), H', ⟨by first | omega | exact Nat.le_refl _⟩, ⟨by (with_reducible repeat (first | refine blk_drewN ?_ _ | refine blk_drew ?_ | refine blk_alloc ?_ _)); exact BK213.out⟩, ⟨by repeat (first | (with_reducible first | exact HB.out | apply below_alloc | apply pw_below_drewN | apply below_drew1 | refine below_set ?_ GE213.out) | exact HB.out)⟩⟩
            · rw [if_neg c12] at H
              have c12b0 : decide (a0_1 < 0) = false := decide_eq_false c12
              clear c12
              have H' := Aside0.mk H
              clear H
              have hcz14_0 : w3.cell? ⟨gb213, 0, none⟩ = some (.int .i64 a0_0) := (blk_cell BK213.out 0).trans rfl
              have hcz14_1 : w3.cell? ⟨gb213, 1, none⟩ = some (.int .i64 a0_1) := (blk_cell BK213.out 1).trans rfl
              have hcz14_2 : w3.cell? ⟨gb213, 2, none⟩ = some (.slice A0_2 l0_2.length c0_2) := (blk_cell BK213.out 2).trans rfl
              have hfz14_0 := blk_frozen BK213.out 0
              have hfz14_1 := blk_frozen BK213.out 1
              have hfz14_2 := blk_frozen BK213.out 2
              go_wp2
              repeat (go_quiet (fail); try go_wp2)
              go_meet
              case rel => exact ⟨_, (decide (a0_1 > 16777216)), (by first | rfl | (simp; done) | (simp [*]; done) | (simp; exact beq_bnot2 _ _) | (simp [*]; exact beq_bnot2 _ _)), H', ⟨by first | omega | exact Nat.le_refl _⟩, ⟨by (with_reducible repeat (first | refine blk_drewN ?_ _ | refine blk_drew ?_ | refine blk_alloc ?_ _)); exact BK213.out⟩, ⟨by repeat (first | (with_reducible first | exact HB.out | apply below_alloc | apply pw_below_drewN | apply below_drew1 | refine below_set ?_ GE213.out) | exact HB.out)⟩⟩
  case rest =>
    clear HC2
    try clear c1
    try clear p2
    try clear c4
    try clear c4b0
    try clear c4b1
    try clear c6
    try clear c6b0
    try clear c6b1
    try clear c8
    try clear c8b0
    try clear c10
    try clear c10b0
    try clear c11
    try clear c12
    try clear c12b0
    try clear hcz11_0
    try clear hcz11_1
    try clear hcz11_2
    try clear hcz13_0
    try clear hcz13_1
    try clear hcz13_2
    try clear hcz14_0
    try clear hcz14_1
    try clear hcz14_2
    try clear hcz5_0
    try clear hcz5_1
    try clear hcz5_2
    try clear hcz7_0
    try clear hcz7_1
    try clear hcz7_2
    try clear hcz9_0
    try clear hcz9_1
    try clear hcz9_2
    try clear hfz11_0
    try clear hfz11_1
    try clear hfz11_2
    try clear hfz13_0
    try clear hfz13_1
    try clear hfz13_2
    try clear hfz14_0
    try clear hfz14_1
    try clear hfz14_2
    try clear hfz5_0
    try clear hfz5_1
    try clear hfz5_2
    try clear hfz7_0
    try clear hfz7_1
    try clear hfz7_2
    try clear hfz9_0
    try clear hfz9_1
    try clear hfz9_2
    obtain ⟨kq, x35_1, rfl, HA, HJ1, BK213, HB⟩ := hcut
    cases kq with
    | zero => exact absurd HA.out (by simp [dasdref20_IsNode.j0])
    | succ kj1 =>
      have H := HA.out
      clear HA
      simp only [dasdref20_IsNode.j0] at H
      by_cases c15 : x35_1 = true
      · subst c15
        have H1 : (some false) = some r := by rw [if_pos rfl] at H; exact H
        clear H
        have H := H1
        clear H1
        obtain rfl := Option.some.inj H
        go_wp2
        repeat (go_quiet (fail); try go_wp2)
        go_ret
        exact ⟨by first | rfl | (simp [errW_none, errW_some] <;> rfl) | (simp [*, errW_none, errW_some] <;> rfl), by repeat (first | (with_reducible first | exact HB.out | apply below_alloc | apply pw_below_drewN | apply below_drew1 | refine below_set ?_ GE213.out) | exact HB.out)⟩
      · replace c15 := Bool.eq_false_iff.mpr c15
        subst c15
        have H1 : (dasdref20_IsNode.l0 kj1 0 a0_0 a0_1 l0_2) = some r := by rw [if_neg (show ¬ (false = true) by decide)] at H; exact H
        clear H
        have H := H1
        clear H1
        have H' := Aside0.mk H
        clear H
        go_wp2
        repeat (go_quiet (fail); try go_wp2)
        go_loopg [3] kj1 (fun kq v3 w' => ∃ (x3_2 : Int), v3 = .int .i64 x3_2 ∧ Aside0 (dasdref20_IsNode.l0 kq x3_2 a0_0 a0_1 l0_2 = some r) ∧ Aside0 (kq ≤ kj1) ∧ Aside0 (w'.heap[gb213]? = some (.cells #[.int .i64 a0_0, .int .i64 a0_1, (.slice A0_2 l0_2.length c0_2)] 24 (0, 0))) ∧ Aside0 (Below w.heap.size w w'))
        case atStart => exact ⟨(0), (by first | rfl | (simp; done) | (simp [*]; done) | (simp; exact beq_bnot2 _ _) | (simp [*]; exact beq_bnot2 _ _)), H', ⟨Nat.le_refl _⟩, ⟨by (with_reducible repeat (first | refine blk_drewN ?_ _ | refine blk_drew ?_ | refine blk_alloc ?_ _)); exact BK213.out⟩, ⟨by repeat (first | (with_reducible first | exact HB.out | apply below_alloc | apply pw_below_drewN | apply below_drew1 | refine below_set ?_ GE213.out) | exact HB.out)⟩⟩
        case round =>
          clear H'
          try clear c1
          try clear p2
          try clear c4
          try clear c4b0
          try clear c4b1
          try clear c6
          try clear c6b0
          try clear c6b1
          try clear c8
          try clear c8b0
          try clear c10
          try clear c10b0
          try clear c11
          try clear c12
          try clear c12b0
          try clear c15
          try clear hcz11_0
          try clear hcz11_1
          try clear hcz11_2
          try clear hcz13_0
          try clear hcz13_1
          try clear hcz13_2
          try clear hcz14_0
          try clear hcz14_1
          try clear hcz14_2
          try clear hcz5_0
          try clear hcz5_1
          try clear hcz5_2
          try clear hcz7_0
          try clear hcz7_1
          try clear hcz7_2
          try clear hcz9_0
          try clear hcz9_1
          try clear hcz9_2
          try clear hfz11_0
          try clear hfz11_1
          try clear hfz11_2
          try clear hfz13_0
          try clear hfz13_1
          try clear hfz13_2
          try clear hfz14_0
          try clear hfz14_1
          try clear hfz14_2
          try clear hfz5_0
          try clear hfz5_1
          try clear hfz5_2
          try clear hfz7_0
          try clear hfz7_1
          try clear hfz7_2
          try clear hfz9_0
          try clear hfz9_1
          try clear hfz9_2
          try clear p2
          obtain ⟨x3_2, rfl, HA, HK2, BK213, HB⟩ := hrel
          cases gk with
          | zero => exact absurd HA.out (by simp [dasdref20_IsNode.l0])
          | succ k2 =>
            have H := HA.out
            clear HA
            simp only [dasdref20_IsNode.l0] at H
            by_cases c16 : x3_2 < (l0_2.length : Int)
            · rw [if_pos c16] at H
              have c16b0 : decide (x3_2 < (l0_2.length : Int)) = true := decide_eq_true c16
              clear c16
              by_cases c17 : 0 ≤ x3_2
              · rw [if_pos c17] at H
                have c17b0 : decide (0 ≤ x3_2) = true := decide_eq_true c17
                clear c17
                have HC18 := Aside0.mk H
                clear H
                have hcz19_0 : wr.cell? ⟨gb213, 0, none⟩ = some (.int .i64 a0_0) := (blk_cell BK213.out 0).trans rfl
                have hcz19_1 : wr.cell? ⟨gb213, 1, none⟩ = some (.int .i64 a0_1) := (blk_cell BK213.out 1).trans rfl
                have hcz19_2 : wr.cell? ⟨gb213, 2, none⟩ = some (.slice A0_2 l0_2.length c0_2) := (blk_cell BK213.out 2).trans rfl
                have hfz19_0 := blk_frozen BK213.out 0
                have hfz19_1 := blk_frozen BK213.out 1
                have hfz19_2 := blk_frozen BK213.out 2
                have p214 : 0 ≤ (x3_2 : Int) := of_decide_eq_true (by first | (with_reducible assumption) | assumption)
                have q214 : x3_2 < (l0_2.length : Int) := of_decide_eq_true (by first | (with_reducible assumption) | assumption)
                obtain ⟨ad214, e214, hx214_0, hx214_1⟩ := at_T32 HR0_2.out x3_2 p214 q214
                cases e214
                replace hx214_0 := (HB.out.cell (World.block_lt_of_cell? w _ hx214_0)).trans hx214_0
                replace hx214_1 := (HB.out.cell (World.block_lt_of_cell? w _ hx214_1)).trans hx214_1
                replace p214 := eq_true p214
                replace q214 := eq_true q214
                go_upto_region 8 with (first | ((with_reducible refine gate_dst (N := 4) rfl ?_); (try (refine gate_guard (by rfl) ?_; dsimp only)); refine box_event ?hg (N := 4) ?hd (cs := #[.string (⟨#[]⟩ : ByteArray), .int .i64 0]) (t := 32) ?hr ?_; (case hd => rfl); (case hg => rfl); (case hr => first | (go_simp; done) | (go_simp; rfl)); intro gb215 hg w20 hbox hb; have n0_ := Aside0.mk (blk_below (g := gb213) (o := .cells #[.int .i64 a0_0, .int .i64 a0_1, .slice (some ad214) l0_2.length c0_2] 24 (0, 0)) (by (with_reducible repeat (first | refine blk_drewN ?_ _ | refine blk_drew ?_ | refine blk_alloc ?_ _)); exact BK213.out) hb); have n1_ := Aside0.mk (below_step (by repeat (first | (with_reducible first | exact HB.out | apply below_alloc | apply pw_below_drewN | apply below_drew1 | refine below_set ?_ GE213.out) | exact HB.out)) hb); have n2_ := Aside0.mk (hbox); have n3_ := Aside0.mk ((by rw [hg]; exact (below_size (by repeat (first | (with_reducible first | exact HB.out | apply below_alloc | apply pw_below_drewN | apply below_drew1 | refine below_set ?_ GE213.out) | exact HB.out))) : w.heap.size ≤ gb215)); have n4_ := Aside0.mk ((by rw [hg]; exact (below_size (by repeat (first | (with_reducible first | exact HB.out | apply below_alloc | apply pw_below_drewN | apply below_drew1 | refine below_set ?_ GE213.out) | exact HB.out))) : w.heap.size ≤ gb215)); have n5_ := Aside0.mk ((by rw [hg]; exact Nat.ne_of_lt (blk_lt (g := gb213) (o := .cells #[.int .i64 a0_0, .int .i64 a0_1, .slice (some ad214) l0_2.length c0_2] 24 (0, 0)) (by (with_reducible repeat (first | refine blk_drewN ?_ _ | refine blk_drew ?_ | refine blk_alloc ?_ _)); exact BK213.out)) : gb213 ≠ gb215)); have n6_ := Aside0.mk ((by rw [hg]; exact Nat.ne_of_gt (blk_lt (g := gb213) (o := .cells #[.int .i64 a0_0, .int .i64 a0_1, .slice (some ad214) l0_2.length c0_2] 24 (0, 0)) (by (with_reducible repeat (first | refine blk_drewN ?_ _ | refine blk_drew ?_ | refine blk_alloc ?_ _)); exact BK213.out)) : gb215 ≠ gb213)); clear BK213; clear HB; have BK213 := n0_; have HB := n1_; have BK215 := n2_; have GW215 := n3_; have GE215 := n4_; have NB213_215 := n5_; have NB215_213 := n6_; clear n0_ n1_ n2_ n3_ n4_ n5_ n6_; clear hb hbox hg; have hnb21 := NB215_213.out; have hnc21 := NB213_215.out; have hcz22_0 : w20.cell? ⟨gb215, 0, none⟩ = some (.string (⟨#[]⟩ : ByteArray)) := (blk_cell BK215.out 0).trans rfl; have hcz22_1 : w20.cell? ⟨gb215, 1, none⟩ = some (.int .i64 0) := (blk_cell BK215.out 1).trans rfl; have hfz22_0 := blk_frozen BK215.out 0; have hfz22_1 := blk_frozen BK215.out 1; have hcz23_0 : w20.cell? ⟨gb213, 0, none⟩ = some (.int .i64 a0_0) := (blk_cell BK213.out 0).trans rfl; have hcz23_1 : w20.cell? ⟨gb213, 1, none⟩ = some (.int .i64 a0_1) := (blk_cell BK213.out 1).trans rfl; have hcz23_2 : w20.cell? ⟨gb213, 2, none⟩ = some (.slice (some ad214) l0_2.length c0_2) := (blk_cell BK213.out 2).trans rfl; have hfz23_0 := blk_frozen BK213.out 0; have hfz23_1 := blk_frozen BK213.out 1; have hfz23_2 := blk_frozen BK213.out 2))
                repeat (go_quiet (first | ((with_reducible refine gate_dst (N := 4) rfl ?_); (try (refine gate_guard (by rfl) ?_; dsimp only)); refine box_event ?hg (N := 4) ?hd (cs := #[.string (⟨#[]⟩ : ByteArray), .int .i64 0]) (t := 32) ?hr ?_; (case hd => rfl); (case hg => rfl); (case hr => first | (go_simp; done) | (go_simp; rfl)); intro gb215 hg w20 hbox hb; have n0_ := Aside0.mk (blk_below (g := gb213) (o := .cells #[.int .i64 a0_0, .int .i64 a0_1, .slice (some ad214) l0_2.length c0_2] 24 (0, 0)) (by (with_reducible repeat (first | refine blk_drewN ?_ _ | refine blk_drew ?_ | refine blk_alloc ?_ _)); exact BK213.out) hb); have n1_ := Aside0.mk (below_step (by repeat (first | (with_reducible first | exact HB.out | apply below_alloc | apply pw_below_drewN | apply below_drew1 | refine below_set ?_ GE213.out) | exact HB.out)) hb); have n2_ := Aside0.mk (hbox); have n3_ := Aside0.mk ((by rw [hg]; exact (below_size (by repeat (first | (with_reducible first | exact HB.out | apply below_alloc | apply pw_below_drewN | apply below_drew1 | refine below_set ?_ GE213.out) | exact HB.out))) : w.heap.size ≤ gb215)); have n4_ := Aside0.mk ((by rw [hg]; exact (below_size (by repeat (first | (with_reducible first | exact HB.out | apply below_alloc | apply pw_below_drewN | apply below_drew1 | refine below_set ?_ GE213.out) | exact HB.out))) : w.heap.size ≤ gb215)); have n5_ := Aside0.mk ((by rw [hg]; exact Nat.ne_of_lt (blk_lt (g := gb213) (o := .cells #[.int .i64 a0_0, .int .i64 a0_1, .slice (some ad214) l0_2.length c0_2] 24 (0, 0)) (by (with_reducible repeat (first | refine blk_drewN ?_ _ | refine blk_drew ?_ | refine blk_alloc ?_ _)); exact BK213.out)) : gb213 ≠ gb215)); have n6_ := Aside0.mk ((by rw [hg]; exact Nat.ne_of_gt (blk_lt (g := gb213) (o := .cells #[.int .i64 a0_0, .int .i64 a0_1, .slice (some ad214) l0_2.length c0_2] 24 (0, 0)) (by (with_reducible repeat (first | refine blk_drewN ?_ _ | refine blk_drew ?_ | refine blk_alloc ?_ _)); exact BK213.out)) : gb215 ≠ gb213)); clear BK213; clear HB; have BK213 := n0_; have HB := n1_; have BK215 := n2_; have GW215 := n3_; have GE215 := n4_; have NB213_215 := n5_; have NB215_213 := n6_; clear n0_ n1_ n2_ n3_ n4_ n5_ n6_; clear hb hbox hg; have hnb21 := NB215_213.out; have hnc21 := NB213_215.out; have hcz22_0 : w20.cell? ⟨gb215, 0, none⟩ = some (.string (⟨#[]⟩ : ByteArray)) := (blk_cell BK215.out 0).trans rfl; have hcz22_1 : w20.cell? ⟨gb215, 1, none⟩ = some (.int .i64 0) := (blk_cell BK215.out 1).trans rfl; have hfz22_0 := blk_frozen BK215.out 0; have hfz22_1 := blk_frozen BK215.out 1; have hcz23_0 : w20.cell? ⟨gb213, 0, none⟩ = some (.int .i64 a0_0) := (blk_cell BK213.out 0).trans rfl; have hcz23_1 : w20.cell? ⟨gb213, 1, none⟩ = some (.int .i64 a0_1) := (blk_cell BK213.out 1).trans rfl; have hcz23_2 : w20.cell? ⟨gb213, 2, none⟩ = some (.slice (some ad214) l0_2.length c0_2) := (blk_cell BK213.out 2).trans rfl; have hfz23_0 := blk_frozen BK213.out 0; have hfz23_1 := blk_frozen BK213.out 1; have hfz23_2 := blk_frozen BK213.out 2)); go_upto_region 8 with (first | ((with_reducible refine gate_dst (N := 4) rfl ?_); (try (refine gate_guard (by rfl) ?_; dsimp only)); refine box_event ?hg (N := 4) ?hd (cs := #[.string (⟨#[]⟩ : ByteArray), .int .i64 0]) (t := 32) ?hr ?_; (case hd => rfl); (case hg => rfl); (case hr => first | (go_simp; done) | (go_simp; rfl)); intro gb215 hg w20 hbox hb; have n0_ := Aside0.mk (blk_below (g := gb213) (o := .cells #[.int .i64 a0_0, .int .i64 a0_1, .slice (some ad214) l0_2.length c0_2] 24 (0, 0)) (by (with_reducible repeat (first | refine blk_drewN ?_ _ | refine blk_drew ?_ | refine blk_alloc ?_ _)); exact BK213.out) hb); have n1_ := Aside0.mk (below_step (by repeat (first | (with_reducible first | exact HB.out | apply below_alloc | apply pw_below_drewN | apply below_drew1 | refine below_set ?_ GE213.out) | exact HB.out)) hb); have n2_ := Aside0.mk (hbox); have n3_ := Aside0.mk ((by rw [hg]; exact (below_size (by repeat (first | (with_reducible first | exact HB.out | apply below_alloc | apply pw_below_drewN | apply below_drew1 | refine below_set ?_ GE213.out) | exact HB.out))) : w.heap.size ≤ gb215)); have n4_ := Aside0.mk ((by rw [hg]; exact (below_size (by repeat (first | (with_reducible first | exact HB.out | apply below_alloc | apply pw_below_drewN | apply below_drew1 | refine below_set ?_ GE213.out) | exact HB.out))) : w.heap.size ≤ gb215)); have n5_ := Aside0.mk ((by rw [hg]; exact Nat.ne_of_lt (blk_lt (g := gb213) (o := .cells #[.int .i64 a0_0, .int .i64 a0_1, .slice (some ad214) l0_2.length c0_2] 24 (0, 0)) (by (with_reducible repeat (first | refine blk_drewN ?_ _ | refine blk_drew ?_ | refine blk_alloc ?_ _)); exact BK213.out)) : gb213 ≠ gb215)); have n6_ := Aside0.mk ((by rw [hg]; exact Nat.ne_of_gt (blk_lt (g := gb213) (o := .cells #[.int .i64 a0_0, .int .i64 a0_1, .slice (some ad214) l0_2.length c0_2] 24 (0, 0)) (by (with_reducible repeat (first | refine blk_drewN ?_ _ | refine blk_drew ?_ | refine blk_alloc ?_ _)); exact BK213.out)) : gb215 ≠ gb213)); clear BK213; clear HB; have BK213 := n0_; have HB := n1_; have BK215 := n2_; have GW215 := n3_; have GE215 := n4_; have NB213_215 := n5_; have NB215_213 := n6_; clear n0_ n1_ n2_ n3_ n4_ n5_ n6_; clear hb hbox hg; have hnb21 := NB215_213.out; have hnc21 := NB213_215.out; have hcz22_0 : w20.cell? ⟨gb215, 0, none⟩ = some (.string (⟨#[]⟩ : ByteArray)) := (blk_cell BK215.out 0).trans rfl; have hcz22_1 : w20.cell? ⟨gb215, 1, none⟩ = some (.int .i64 0) := (blk_cell BK215.out 1).trans rfl; have hfz22_0 := blk_frozen BK215.out 0; have hfz22_1 := blk_frozen BK215.out 1; have hcz23_0 : w20.cell? ⟨gb213, 0, none⟩ = some (.int .i64 a0_0) := (blk_cell BK213.out 0).trans rfl; have hcz23_1 : w20.cell? ⟨gb213, 1, none⟩ = some (.int .i64 a0_1) := (blk_cell BK213.out 1).trans rfl; have hcz23_2 : w20.cell? ⟨gb213, 2, none⟩ = some (.slice (some ad214) l0_2.length c0_2) := (blk_cell BK213.out 2).trans rfl; have hfz23_0 := blk_frozen BK213.out 0; have hfz23_1 := blk_frozen BK213.out 1; have hfz23_2 := blk_frozen BK213.out 2)))
                (try simp only [Act.put, List.setIfInBounds_toArray, List.set_cons_zero, List.set_cons_succ])
                go_cut [74] (fun v74 wc => ∃ (kq : Nat) (x74_17 : Bool), v74 = .bool x74_17 ∧ Aside0 (dasdref20_IsNode.j2 kq x3_2 (x3_2 == (wrap64 ((l0_2.length : Int) - 1))) x74_17 a0_0 a0_1 l0_2 ((rd_T32 l0_2 x3_2).f0) ((rd_T32 l0_2 x3_2).f1) = some r) ∧ Aside0 (kq ≤ k2) ∧ Aside0 (wc.heap[gb213]? = some (.cells #[.int .i64 a0_0, .int .i64 a0_1, (.slice (some ad214) l0_2.length c0_2)] 24 (0, 0))) ∧ Aside0 (wc.heap[gb215]? = some (.cells #[.string ((rd_T32 l0_2 x3_2).f0), .int .i64 ((rd_T32 l0_2 x3_2).f1)] 32 (0, 0))) ∧ Aside0 (Below w.heap.size w wc))
                case first =>
                  have H := HC18.out
                  clear HC18
                  by_cases c24 : ((rd_T32 l0_2 x3_2).f1) < 1
                  · rw [if_pos c24] at H
                    have c24b0 : decide (((rd_T32 l0_2 x3_2).f1) < 1) = true := decide_eq_true c24
                    clear c24
                    (first | rw [c24b0] | (simp only [i64_w, i32_w]; rw [c24b0]) | skip)
                    have H' := Aside0.mk H
                    clear H
                    have hnb25 := NB215_213.out
                    have hnc25 := NB213_215.out
                    have hcz26_0 : w20.cell? ⟨gb215, 0, none⟩ = some (.string (⟨#[]⟩ : ByteArray)) := (blk_cell BK215.out 0).trans rfl
                    have hcz26_1 : w20.cell? ⟨gb215, 1, none⟩ = some (.int .i64 0) := (blk_cell BK215.out 1).trans rfl
                    have hfz26_0 := blk_frozen BK215.out 0
                    have hfz26_1 := blk_frozen BK215.out 1
                    go_wp2
                    repeat (go_quiet (fail); try go_wp2)
                    go_meet
                    case rel => exact ⟨_, (true), (by first | rfl | (simp; done) | (simp [*]; done) | (simp; exact beq_bnot2 _ _) | (simp [*]; exact beq_bnot2 _ _)), H', ⟨by have := HJ1.out; have := HK2.out; first | omega | exact Nat.le_refl _⟩, ⟨by (with_reducible repeat (first | refine blk_drewN ?_ _ | refine blk_drew ?_ | refine blk_alloc ?_ _)); refine blk_far ?_ NB213_215.out _; (with_reducible repeat (first | refine blk_drewN ?_ _ | refine blk_drew ?_ | refine blk_alloc ?_ _)); refine blk_far ?_ NB213_215.out _; (with_reducible repeat (first | refine blk_drewN ?_ _ | refine blk_drew ?_ | refine blk_alloc ?_ _)); exact BK213.out⟩, ⟨by (with_reducible repeat (first | refine blk_drewN ?_ _ | refine blk_drew ?_ | refine blk_alloc ?_ _)); refine blk_put (cs := #[.string ((rd_T32 l0_2 x3_2).f0), .int .i64 0]) ?_ 1 _ rfl; (with_reducible repeat (first | refine blk_drewN ?_ _ | refine blk_drew ?_ | refine blk_alloc ?_ _)); refine blk_put (cs := #[.string (⟨#[]⟩ : ByteArray), .int .i64 0]) ?_ 0 _ rfl; (with_reducible repeat (first | refine blk_drewN ?_ _ | refine blk_drew ?_ | refine blk_alloc ?_ _)); exact BK215.out⟩, ⟨by repeat (first | (with_reducible first | exact HB.out | apply below_alloc | apply pw_below_drewN | apply below_drew1 | refine below_set ?_ GE213.out | refine below_set ?_ GE215.out) | exact HB.out)⟩⟩
                  · rw [if_neg c24] at H
                    have c24b0 : decide (((rd_T32 l0_2 x3_2).f1) < 1) = false := decide_eq_false c24
                    clear c24
                    (first | rw [c24b0] | (simp only [i64_w, i32_w]; rw [c24b0]) | skip)
                    by_cases c27 : ((rd_T32 l0_2 x3_2).f1) > 16777216
                    · rw [if_pos c27] at H
                      have c27b0 : decide (16777216 < ((rd_T32 l0_2 x3_2).f1)) = true := decide_eq_true c27
                      clear c27
                      have H' := Aside0.mk H
                      clear H
                      have hnb28 := NB215_213.out
                      have hnc28 := NB213_215.out
                      have hcz29_0 : w20.cell? ⟨gb215, 0, none⟩ = some (.string (⟨#[]⟩ : ByteArray)) := (blk_cell BK215.out 0).trans rfl
                      have hcz29_1 : w20.cell? ⟨gb215, 1, none⟩ = some (.int .i64 0) := (blk_cell BK215.out 1).trans rfl
                      have hfz29_0 := blk_frozen BK215.out 0
                      have hfz29_1 := blk_frozen BK215.out 1
                      go_wp2
                      repeat (go_quiet (fail); try go_wp2)
                      go_meet
                      case rel => exact ⟨_, (true), (by first | rfl | (simp; done) | (simp [*]; done) | (simp; exact beq_bnot2 _ _) | (simp [*]; exact beq_bnot2 _ _)), H', ⟨by have := HJ1.out; have := HK2.out; first | omega | exact Nat.le_refl _⟩, ⟨by (with_reducible repeat (first | refine blk_drewN ?_ _ | refine blk_drew ?_ | refine blk_alloc ?_ _)); refine blk_far ?_ NB213_215.out _; (with_reducible repeat (first | refine blk_drewN ?_ _ | refine blk_drew ?_ | refine blk_alloc ?_ _)); refine blk_far ?_ NB213_215.out _; (with_reducible repeat (first | refine blk_drewN ?_ _ | refine blk_drew ?_ | refine blk_alloc ?_ _)); exact BK213.out⟩, ⟨by (with_reducible repeat (first | refine blk_drewN ?_ _ | refine blk_drew ?_ | refine blk_alloc ?_ _)); refine blk_put (cs := #[.string ((rd_T32 l0_2 x3_2).f0), .int .i64 0]) ?_ 1 _ rfl; (with_reducible repeat (first | refine blk_drewN ?_ _ | refine blk_drew ?_ | refine blk_alloc ?_ _)); refine blk_put (cs := #[.string (⟨#[]⟩ : ByteArray), .int .i64 0]) ?_ 0 _ rfl; (with_reducible repeat (first | refine blk_drewN ?_ _ | refine blk_drew ?_ | refine blk_alloc ?_ _)); exact BK215.out⟩, ⟨by repeat (first | (with_reducible first | exact HB.out | apply below_alloc | apply pw_below_drewN | apply below_drew1 | refine below_set ?_ GE213.out | refine below_set ?_ GE215.out) | exact HB.out)⟩⟩
                    · rw [if_neg c27] at H
                      have c27b0 : decide (16777216 < ((rd_T32 l0_2 x3_2).f1)) = false := decide_eq_false c27
                      clear c27
                      by_cases c30 : (((rd_T32 l0_2 x3_2).f0).size : Int) > 32
                      · rw [if_pos c30] at H
                        have c30b0 : decide (32 < (((rd_T32 l0_2 x3_2).f0).size : Int)) = true := decide_eq_true c30
                        have c30b1 : decide (32 < ((rd_T32 l0_2 x3_2).f0).size) = true := decide_eq_true (by omega)
                        clear c30
                        have H' := Aside0.mk H
                        clear H
                        have hnb31 := NB215_213.out
                        have hnc31 := NB213_215.out
                        have hcz32_0 : w20.cell? ⟨gb215, 0, none⟩ = some (.string (⟨#[]⟩ : ByteArray)) := (blk_cell BK215.out 0).trans rfl
                        have hcz32_1 : w20.cell? ⟨gb215, 1, none⟩ = some (.int .i64 0) := (blk_cell BK215.out 1).trans rfl
                        have hfz32_0 := blk_frozen BK215.out 0
                        have hfz32_1 := blk_frozen BK215.out 1
                        go_wp2
                        repeat (go_quiet (fail); try go_wp2)
                        go_meet
                        case rel => exact ⟨_, (true), (by first | rfl | (simp; done) | (simp [*]; done) | (simp; exact beq_bnot2 _ _) | (simp [*]; exact beq_bnot2 _ _)), H', ⟨by have := HJ1.out; have := HK2.out; first | omega | exact Nat.le_refl _⟩, ⟨by (with_reducible repeat (first | refine blk_drewN ?_ _ | refine blk_drew ?_ | refine blk_alloc ?_ _)); refine blk_far ?_ NB213_215.out _; (with_reducible repeat (first | refine blk_drewN ?_ _ | refine blk_drew ?_ | refine blk_alloc ?_ _)); refine blk_far ?_ NB213_215.out _; (with_reducible repeat (first | refine blk_drewN ?_ _ | refine blk_drew ?_ | refine blk_alloc ?_ _)); exact BK213.out⟩, ⟨by (with_reducible repeat (first | refine blk_drewN ?_ _ | refine blk_drew ?_ | refine blk_alloc ?_ _)); refine blk_put (cs := #[.string ((rd_T32 l0_2 x3_2).f0), .int .i64 0]) ?_ 1 _ rfl; (with_reducible repeat (first | refine blk_drewN ?_ _ | refine blk_drew ?_ | refine blk_alloc ?_ _)); refine blk_put (cs := #[.string (⟨#[]⟩ : ByteArray), .int .i64 0]) ?_ 0 _ rfl; (with_reducible repeat (first | refine blk_drewN ?_ _ | refine blk_drew ?_ | refine blk_alloc ?_ _)); exact BK215.out⟩, ⟨by repeat (first | (with_reducible first | exact HB.out | apply below_alloc | apply pw_below_drewN | apply below_drew1 | refine below_set ?_ GE213.out | refine below_set ?_ GE215.out) | exact HB.out)⟩⟩
                      · rw [if_neg c30] at H
                        have c30b0 : decide (32 < (((rd_T32 l0_2 x3_2).f0).size : Int)) = false := decide_eq_false c30
                        have c30b1 : decide (32 < ((rd_T32 l0_2 x3_2).f0).size) = false := decide_eq_false (by omega)
                        clear c30
                        have H' := Aside0.mk H
                        clear H
                        have hnb33 := NB215_213.out
                        have hnc33 := NB213_215.out
                        have hcz34_0 : w20.cell? ⟨gb215, 0, none⟩ = some (.string (⟨#[]⟩ : ByteArray)) := (blk_cell BK215.out 0).trans rfl
                        have hcz34_1 : w20.cell? ⟨gb215, 1, none⟩ = some (.int .i64 0) := (blk_cell BK215.out 1).trans rfl
                        have hfz34_0 := blk_frozen BK215.out 0
                        have hfz34_1 := blk_frozen BK215.out 1
                        go_wp2
                        repeat (go_quiet (fail); try go_wp2)
                        go_meet
                        case rel => exact ⟨_, (((((rd_T32 l0_2 x3_2).f0).toList == ([] : List UInt8)) != (x3_2 == (wrap64 ((l0_2.length : Int) - 1))))), (by first | rfl | (simp; done) | (simp [*]; done) | (simp; exact beq_bnot2 _ _) | (simp [*]; exact beq_bnot2 _ _)), H', ⟨by have := HJ1.out; have := HK2.out; first | omega | exact Nat.le_refl _⟩, ⟨by (with_reducible repeat (first | refine blk_drewN ?_ _ | refine blk_drew ?_ | refine blk_alloc ?_ _)); refine blk_far ?_ NB213_215.out _; (with_reducible repeat (first | refine blk_drewN ?_ _ | refine blk_drew ?_ | refine blk_alloc ?_ _)); refine blk_far ?_ NB213_215.out _; (with_reducible repeat (first | refine blk_drewN ?_ _ | refine blk_drew ?_ | refine blk_alloc ?_ _)); exact BK213.out⟩, ⟨by (with_reducible repeat (first | refine blk_drewN ?_ _ | refine blk_drew ?_ | refine blk_alloc ?_ _)); refine blk_put (cs := #[.string ((rd_T32 l0_2 x3_2).f0), .int .i64 0]) ?_ 1 _ rfl; (with_reducible repeat (first | refine blk_drewN ?_ _ | refine blk_drew ?_ | refine blk_alloc ?_ _)); refine blk_put (cs := #[.string (⟨#[]⟩ : ByteArray), .int .i64 0]) ?_ 0 _ rfl; (with_reducible repeat (first | refine blk_drewN ?_ _ | refine blk_drew ?_ | refine blk_alloc ?_ _)); exact BK215.out⟩, ⟨by repeat (first | (with_reducible first | exact HB.out | apply below_alloc | apply pw_below_drewN | apply below_drew1 | refine below_set ?_ GE213.out | refine below_set ?_ GE215.out) | exact HB.out)⟩⟩
                case rest =>
                  clear HC18
                  try clear c1
                  try clear c2
                  try clear p2
                  try clear q2
                  try clear hx2
                  try clear c3
                  try clear c4
                  try clear c4b0
                  try clear c4b1
                  try clear c6
                  try clear c6b0
                  try clear c6b1
                  try clear p6
                  try clear c8
                  try clear c8b0
                  try clear c10
                  try clear c10b0
                  try clear c11
                  try clear c12
                  try clear c12b0
                  try clear c15
                  try clear c16
                  try clear c16b0
                  try clear c17
                  try clear c17b0
                  try clear c21
                  try clear p21
                  try clear q21
                  try clear hx21
                  try clear c24
                  try clear c24b0
                  try clear c25
                  try clear c27
                  try clear c27b0
                  try clear c28
                  try clear c30
                  try clear c30b0
                  try clear c30b1
                  try clear c31
                  try clear c33
                  try clear hcz11_0
                  try clear hcz11_1
                  try clear hcz11_2
                  try clear hcz13_0
                  try clear hcz13_1
                  try clear hcz13_2
                  try clear hcz14_0
                  try clear hcz14_1
                  try clear hcz14_2
                  try clear hcz19_0
                  try clear hcz19_1
                  try clear hcz19_2
                  try clear hcz22_0
                  try clear hcz22_1
                  try clear hcz23_0
                  try clear hcz23_1
                  try clear hcz23_2
                  try clear hcz26_0
                  try clear hcz26_1
                  try clear hcz29_0
                  try clear hcz29_1
                  try clear hcz32_0
                  try clear hcz32_1
                  try clear hcz34_0
                  try clear hcz34_1
                  try clear hcz5_0
                  try clear hcz5_1
                  try clear hcz5_2
                  try clear hcz7_0
                  try clear hcz7_1
                  try clear hcz7_2
                  try clear hcz9_0
                  try clear hcz9_1
                  try clear hcz9_2
                  try clear hfz11_0
                  try clear hfz11_1
                  try clear hfz11_2
                  try clear hfz13_0
                  try clear hfz13_1
                  try clear hfz13_2
                  try clear hfz14_0
                  try clear hfz14_1
                  try clear hfz14_2
                  try clear hfz19_0
                  try clear hfz19_1
                  try clear hfz19_2
                  try clear hfz22_0
                  try clear hfz22_1
                  try clear hfz23_0
                  try clear hfz23_1
                  try clear hfz23_2
                  try clear hfz26_0
                  try clear hfz26_1
                  try clear hfz29_0
                  try clear hfz29_1
                  try clear hfz32_0
                  try clear hfz32_1
                  try clear hfz34_0
                  try clear hfz34_1
                  try clear hfz5_0
                  try clear hfz5_1
                  try clear hfz5_2
                  try clear hfz7_0
                  try clear hfz7_1
                  try clear hfz7_2
                  try clear hfz9_0
                  try clear hfz9_1
                  try clear hfz9_2
                  try clear hx214_0
                  try clear hx214_1
                  try clear p2
                  try clear p214
                  try clear q214
                  obtain ⟨kq, x74_17, rfl, HA, HJ17, BK213, BK215, HB⟩ := hcut
                  cases kq with
                  | zero => exact absurd HA.out (by simp [dasdref20_IsNode.j2])
                  | succ kj17 =>
                    have H := HA.out
                    clear HA
                    simp only [dasdref20_IsNode.j2] at H
                    by_cases c35 : x74_17 = true
                    · subst c35
                      have H1 : (some false) = some r := by rw [if_pos rfl] at H; exact H
                      clear H
                      have H := H1
                      clear H1
                      obtain rfl := Option.some.inj H
                      go_wp2
                      repeat (go_quiet (fail); try go_wp2)
                      go_ret
                      exact ⟨by first | rfl | (simp [errW_none, errW_some] <;> rfl) | (simp [*, errW_none, errW_some] <;> rfl), by repeat (first | (with_reducible first | exact HB.out | apply below_alloc | apply pw_below_drewN | apply below_drew1 | refine below_set ?_ GE213.out | refine below_set ?_ GE215.out) | exact HB.out)⟩
                    · replace c35 := Bool.eq_false_iff.mpr c35
                      subst c35
                      have H1 : (if x3_2 > 0 then (if (x3_2 == (wrap64 ((l0_2.length : Int) - 1))) = true then (dasdref20_IsNode.l0 kj17 (wrap64 (x3_2 + 1)) a0_0 a0_1 l0_2) else (if 0 ≤ (wrap64 (x3_2 - 1)) then (if (wrap64 (x3_2 - 1)) < (l0_2.length : Int) then (if ((Op.bytesLess (((rd_T32 l0_2 (wrap64 (x3_2 - 1))).f0).toList) ((rd_T32 l0_2 x3_2).f0).toList) = true) then (dasdref20_IsNode.l0 kj17 (wrap64 (x3_2 + 1)) a0_0 a0_1 l0_2) else (some false)) else (none)) else (none))) else (dasdref20_IsNode.l0 kj17 (wrap64 (x3_2 + 1)) a0_0 a0_1 l0_2)) = some r := by rw [if_neg (show ¬ (false = true) by decide)] at H; exact H
                      clear H
                      have H := H1
                      clear H1
                      by_cases c36 : x3_2 > 0
                      · rw [if_pos c36] at H
                        have c36b0 : decide (0 < x3_2) = true := decide_eq_true c36
                        clear c36
                        by_cases c37 : (x3_2 == (wrap64 ((l0_2.length : Int) - 1))) = true
                        · rw [if_pos c37] at H
                          have c37b0 : (x3_2 == (wrap64 ((l0_2.length : Int) - 1))) = true := c37
                          (try (have c37b1 : decide (x3_2 = (wrap64 ((l0_2.length : Int) - 1))) = true := by simpa using c37))
                          (try (have c37b2 : (x3_2 == (wrap64 ((l0_2.length : Int) - 1))) = true := by simpa using c37))
                          clear c37
                          have H' := Aside0.mk H
                          clear H
                          go_wp2
                          repeat (go_quiet (fail); try go_wp2)
                          go_roundg kj17
                          case measure => have := HJ1.out; have := HK2.out; have := HJ17.out; omega
                          case rel => exact ⟨(wrap64 (x3_2 + 1)), (by first | rfl | (simp; done) | (simp [*]; done) | (simp; exact beq_bnot2 _ _) | (simp [*]; exact beq_bnot2 _ _)), H', ⟨by have := HJ1.out; have := HK2.out; have := HJ17.out; omega⟩, ⟨by (with_reducible repeat (first | refine blk_drewN ?_ _ | refine blk_drew ?_ | refine blk_alloc ?_ _)); exact BK213.out⟩, ⟨by repeat (first | (with_reducible first | exact HB.out | apply below_alloc | apply pw_below_drewN | apply below_drew1 | refine below_set ?_ GE213.out | refine below_set ?_ GE215.out) | exact HB.out)⟩⟩
                        · rw [if_neg c37] at H
                          have c37b0 : (x3_2 == (wrap64 ((l0_2.length : Int) - 1))) = false := by simpa using c37
                          (try (have c37b1 : decide (x3_2 = (wrap64 ((l0_2.length : Int) - 1))) = false := by simpa using c37))
                          (try (have c37b2 : (x3_2 == (wrap64 ((l0_2.length : Int) - 1))) = false := by simpa using c37))
                          (try (have c37b3 : ¬ (x3_2 = (wrap64 ((l0_2.length : Int) - 1))) := by simpa using c37))
                          clear c37
                          obtain ⟨ji38, hji38⟩ : ∃ j_ : Int, (wrap64 (x3_2 - 1)) = j_ := ⟨_, rfl⟩
                          replace H : (if 0 ≤ (ji38) then (if (ji38) < (l0_2.length : Int) then (if ((Op.bytesLess (((rd_T32 l0_2 (ji38)).f0).toList) ((rd_T32 l0_2 x3_2).f0).toList) = true) then (dasdref20_IsNode.l0 kj17 (wrap64 (x3_2 + 1)) a0_0 a0_1 l0_2) else (some false)) else (none)) else (none)) = some r := by first | (rw [hji38] at H; exact H) | (simp only [hji38] at H ⊢; exact H)
                          have hji38w : (IntKind.i64.wrap (x3_2 - 1)) = ji38 := (i64_w _).trans hji38
                          by_cases c39 : 0 ≤ (ji38)
                          · rw [if_pos c39] at H
                            have c39b0 : decide (0 ≤ (ji38)) = true := decide_eq_true c39
                            clear c39
                            by_cases c40 : (ji38) < (l0_2.length : Int)
                            · rw [if_pos c40] at H
                              have c40b0 : decide ((ji38) < (l0_2.length : Int)) = true := decide_eq_true c40
                              clear c40
                              by_cases c41 : ((Op.bytesLess (((rd_T32 l0_2 (ji38)).f0).toList) ((rd_T32 l0_2 x3_2).f0).toList) = true)
                              · rw [if_pos c41] at H
                                have c41b0 : (Op.bytesLess (((rd_T32 l0_2 (ji38)).f0).toList) ((rd_T32 l0_2 x3_2).f0).toList) = true := c41
                                clear c41
                                have H' := Aside0.mk H
                                clear H
                                have hnb42 := NB213_215.out
                                have hnc42 := NB215_213.out
                                have hcz43_0 : wc.cell? ⟨gb213, 0, none⟩ = some (.int .i64 a0_0) := (blk_cell BK213.out 0).trans rfl
                                have hcz43_1 : wc.cell? ⟨gb213, 1, none⟩ = some (.int .i64 a0_1) := (blk_cell BK213.out 1).trans rfl
                                have hcz43_2 : wc.cell? ⟨gb213, 2, none⟩ = some (.slice (some ad214) l0_2.length c0_2) := (blk_cell BK213.out 2).trans rfl
                                have hfz43_0 := blk_frozen BK213.out 0
                                have hfz43_1 := blk_frozen BK213.out 1
                                have hfz43_2 := blk_frozen BK213.out 2
                                have p216 : 0 ≤ ((ji38) : Int) := of_decide_eq_true (by first | (with_reducible assumption) | assumption)
                                have q216 : (ji38) < (l0_2.length : Int) := of_decide_eq_true (by first | (with_reducible assumption) | assumption)
                                obtain ⟨ad216, e216, hx216_0, hx216_1⟩ := at_T32 HR0_2.out (ji38) p216 q216
                                obtain rfl : ad214 = ad216 := (by injection e216)
                                replace hx216_0 := (HB.out.cell (World.block_lt_of_cell? w _ hx216_0)).trans hx216_0
                                replace hx216_1 := (HB.out.cell (World.block_lt_of_cell? w _ hx216_1)).trans hx216_1
                                replace p216 := eq_true p216
                                replace q216 := eq_true q216
                                have hcz44_0 : wc.cell? ⟨gb215, 0, none⟩ = some (.string ((rd_T32 l0_2 x3_2).f0)) := (blk_cell BK215.out 0).trans rfl
                                have hcz44_1 : wc.cell? ⟨gb215, 1, none⟩ = some (.int .i64 ((rd_T32 l0_2 x3_2).f1)) := (blk_cell BK215.out 1).trans rfl
                                have hfz44_0 := blk_frozen BK215.out 0
                                have hfz44_1 := blk_frozen BK215.out 1
                                go_wp2
                                repeat (go_quiet (fail); try go_wp2)
                                go_roundg kj17
                                case measure => have := HJ1.out; have := HK2.out; have := HJ17.out; omega
                                case rel => exact ⟨(wrap64 (x3_2 + 1)), (by first | rfl | (simp; done) | (simp [*]; done) | (simp; exact beq_bnot2 _ _) | (simp [*]; exact beq_bnot2 _ _)), H', ⟨by have := HJ1.out; have := HK2.out; have := HJ17.out; omega⟩, ⟨by (with_reducible repeat (first | refine blk_drewN ?_ _ | refine blk_drew ?_ | refine blk_alloc ?_ _)); exact BK213.out⟩, ⟨by repeat (first | (with_reducible first | exact HB.out | apply below_alloc | apply pw_below_drewN | apply below_drew1 | refine below_set ?_ GE213.out | refine below_set ?_ GE215.out) | exact HB.out)⟩⟩
                              · rw [if_neg c41] at H
                                have c41b0 : (Op.bytesLess (((rd_T32 l0_2 (ji38)).f0).toList) ((rd_T32 l0_2 x3_2).f0).toList) = false := by simpa using c41
                                clear c41
                                obtain rfl := Option.some.inj H
                                have hnb45 := NB213_215.out
                                have hnc45 := NB215_213.out
                                have hcz46_0 : wc.cell? ⟨gb213, 0, none⟩ = some (.int .i64 a0_0) := (blk_cell BK213.out 0).trans rfl
                                have hcz46_1 : wc.cell? ⟨gb213, 1, none⟩ = some (.int .i64 a0_1) := (blk_cell BK213.out 1).trans rfl
                                have hcz46_2 : wc.cell? ⟨gb213, 2, none⟩ = some (.slice (some ad214) l0_2.length c0_2) := (blk_cell BK213.out 2).trans rfl
                                have hfz46_0 := blk_frozen BK213.out 0
                                have hfz46_1 := blk_frozen BK213.out 1
                                have hfz46_2 := blk_frozen BK213.out 2
                                have p216 : 0 ≤ ((ji38) : Int) := of_decide_eq_true (by first | (with_reducible assumption) | assumption)
                                have q216 : (ji38) < (l0_2.length : Int) := of_decide_eq_true (by first | (with_reducible assumption) | assumption)
                                obtain ⟨ad216, e216, hx216_0, hx216_1⟩ := at_T32 HR0_2.out (ji38) p216 q216
                                obtain rfl : ad214 = ad216 := (by injection e216)
                                replace hx216_0 := (HB.out.cell (World.block_lt_of_cell? w _ hx216_0)).trans hx216_0
                                replace hx216_1 := (HB.out.cell (World.block_lt_of_cell? w _ hx216_1)).trans hx216_1
                                replace p216 := eq_true p216
                                replace q216 := eq_true q216
                                have hcz47_0 : wc.cell? ⟨gb215, 0, none⟩ = some (.string ((rd_T32 l0_2 x3_2).f0)) := (blk_cell BK215.out 0).trans rfl
                                have hcz47_1 : wc.cell? ⟨gb215, 1, none⟩ = some (.int .i64 ((rd_T32 l0_2 x3_2).f1)) := (blk_cell BK215.out 1).trans rfl
                                have hfz47_0 := blk_frozen BK215.out 0
                                have hfz47_1 := blk_frozen BK215.out 1
                                go_wp2
                                repeat (go_quiet (fail); try go_wp2)
                                go_ret
                                exact ⟨by first | rfl | (simp [errW_none, errW_some] <;> rfl) | (simp only [← hji38]; first | rfl | (simp [errW_none, errW_some] <;> rfl)) | (simp [*, errW_none, errW_some] <;> rfl), by repeat (first | (with_reducible first | exact HB.out | apply below_alloc | apply pw_below_drewN | apply below_drew1 | refine below_set ?_ GE213.out | refine below_set ?_ GE215.out) | exact HB.out)⟩
                            · rw [if_neg c40] at H
                              exact absurd H (by simp)
                          · rw [if_neg c39] at H
                            exact absurd H (by simp)
                      · rw [if_neg c36] at H
                        have c36b0 : decide (0 < x3_2) = false := decide_eq_false c36
                        clear c36
                        have H' := Aside0.mk H
                        clear H
                        go_wp2
                        repeat (go_quiet (fail); try go_wp2)
                        go_roundg kj17
                        case measure => have := HJ1.out; have := HK2.out; have := HJ17.out; omega
                        case rel => exact ⟨(wrap64 (x3_2 + 1)), (by first | rfl | (simp; done) | (simp [*]; done) | (simp; exact beq_bnot2 _ _) | (simp [*]; exact beq_bnot2 _ _)), H', ⟨by have := HJ1.out; have := HK2.out; have := HJ17.out; omega⟩, ⟨by (with_reducible repeat (first | refine blk_drewN ?_ _ | refine blk_drew ?_ | refine blk_alloc ?_ _)); exact BK213.out⟩, ⟨by repeat (first | (with_reducible first | exact HB.out | apply below_alloc | apply pw_below_drewN | apply below_drew1 | refine below_set ?_ GE213.out | refine below_set ?_ GE215.out) | exact HB.out)⟩⟩
              · rw [if_neg c17] at H
                exact absurd H (by simp)
            · rw [if_neg c16] at H
              have c16b0 : decide (x3_2 < (l0_2.length : Int)) = false := decide_eq_false c16
              clear c16
              obtain rfl := Option.some.inj H
              have hcz48_0 : wr.cell? ⟨gb213, 0, none⟩ = some (.int .i64 a0_0) := (blk_cell BK213.out 0).trans rfl
              have hcz48_1 : wr.cell? ⟨gb213, 1, none⟩ = some (.int .i64 a0_1) := (blk_cell BK213.out 1).trans rfl
              have hcz48_2 : wr.cell? ⟨gb213, 2, none⟩ = some (.slice A0_2 l0_2.length c0_2) := (blk_cell BK213.out 2).trans rfl
              have hfz48_0 := blk_frozen BK213.out 0
              have hfz48_1 := blk_frozen BK213.out 1
              have hfz48_2 := blk_frozen BK213.out 2
              go_wp2
              repeat (go_quiet (fail); try go_wp2)
              go_ret
              exact ⟨by first | rfl | (simp [errW_none, errW_some] <;> rfl) | (simp [*, errW_none, errW_some] <;> rfl), by repeat (first | (with_reducible first | exact HB.out | apply below_alloc | apply pw_below_drewN | apply below_drew1 | refine below_set ?_ GE213.out) | exact HB.out)⟩

end Go.Proofs.Ytffkgdaookidbaa.XNx
