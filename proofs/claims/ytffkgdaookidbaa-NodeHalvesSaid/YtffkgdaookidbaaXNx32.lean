/- Written by xprint.py, a program of this session: what functions of the program answer, each by a walk of its code; no condition beside those in the statements. -/
import Derived.Test.YtffkgdaookidbaaXNx0
import Derived.Test.YtffkgdaookidbaaXNx13
import Derived.Test.YtffkgdaookidbaaXNx14
import Derived.Test.YtffkgdaookidbaaXNx15
import Derived.Test.YtffkgdaookidbaaExtSplit
namespace Go.Proofs.Ytffkgdaookidbaa.XNx
open Go.RowKit Go.Proofs.YtffkgdaookidbaaW.PrintWords Go.Proofs.YtffkgdaookidbaaW.PrintLast Go.Proofs.YtffkgdaookidbaaW.PrintMore
attribute [local go_sem] max2_int min2_int max_two min_two max_three min_three max_four min_four   -- for this text's walks alone
open Go.Proofs.Ytffkgdaookidbaa.XW
set_option linter.unusedVariables false
set_option linter.unusedSimpArgs false

/-! ### dasdlaw20_NodeHalves: function 9 -/
mutual
def dasdlaw20_NodeHalves.j0 : Nat → ByteArray → Bool → Int → Int → List (S32) → Option (Bool)
  | 0, _, _, _, _, _ => none
  | k + 1, x1, x19, x460000, x460001, x460002 => if x19 = true then (some true) else ((node_Split.f x460000 x460001 x460002).bind fun bt462 => (if (x460002.length : Int) = 1 then (some (bt462.2.2.2.2.2.2.2 == 9)) else (if bt462.2.2.2.2.2.2.2 = 0 then ((dasdref20_IsNode.f k bt462.1 bt462.2.1 bt462.2.2.1).bind fun t476 => (if t476 = true then ((dasdref20_IsNode.f k bt462.2.2.2.1 bt462.2.2.2.2.1 bt462.2.2.2.2.2.1).bind fun t477 => (if t477 = true then (if (wrap64 ((bt462.2.2.1.length : Int) + (bt462.2.2.2.2.2.1.length : Int))) = (x460002.length : Int) then (if (wrap64 ((bt462.2.2.1.length : Int) - (bt462.2.2.2.2.2.1.length : Int))) < 0 then (dasdlaw20_NodeHalves.j1 k x1 bt462.2.2.2.2.2.2.1 true x460000 x460001 x460002 bt462.1 bt462.2.1 bt462.2.2.1 bt462.2.2.2.1 bt462.2.2.2.2.1 bt462.2.2.2.2.2.1) else (if (wrap64 ((bt462.2.2.1.length : Int) - (bt462.2.2.2.2.2.1.length : Int))) > 1 then (dasdlaw20_NodeHalves.j1 k x1 bt462.2.2.2.2.2.2.1 true x460000 x460001 x460002 bt462.1 bt462.2.1 bt462.2.2.1 bt462.2.2.2.1 bt462.2.2.2.2.1 bt462.2.2.2.2.2.1) else (if bt462.2.2.2.2.2.2.1.toList = ([] : List UInt8) then (dasdlaw20_NodeHalves.j1 k x1 bt462.2.2.2.2.2.2.1 true x460000 x460001 x460002 bt462.1 bt462.2.1 bt462.2.2.1 bt462.2.2.2.1 bt462.2.2.2.2.1 bt462.2.2.2.2.2.1) else (dasdlaw20_NodeHalves.j1 k x1 bt462.2.2.2.2.2.2.1 (bt462.2.2.2.2.1 != x460001) x460000 x460001 x460002 bt462.1 bt462.2.1 bt462.2.2.1 bt462.2.2.2.1 bt462.2.2.2.2.1 bt462.2.2.2.2.2.1)))) else (dasdlaw20_NodeHalves.j1 k x1 bt462.2.2.2.2.2.2.1 true x460000 x460001 x460002 bt462.1 bt462.2.1 bt462.2.2.1 bt462.2.2.2.1 bt462.2.2.2.2.1 bt462.2.2.2.2.2.1)) else (dasdlaw20_NodeHalves.j1 k x1 bt462.2.2.2.2.2.2.1 true x460000 x460001 x460002 bt462.1 bt462.2.1 bt462.2.2.1 bt462.2.2.2.1 bt462.2.2.2.2.1 bt462.2.2.2.2.2.1))) else (dasdlaw20_NodeHalves.j1 k x1 bt462.2.2.2.2.2.2.1 true x460000 x460001 x460002 bt462.1 bt462.2.1 bt462.2.2.1 bt462.2.2.2.1 bt462.2.2.2.2.1 bt462.2.2.2.2.2.1))) else (dasdlaw20_NodeHalves.j1 k x1 bt462.2.2.2.2.2.2.1 true x460000 x460001 x460002 bt462.1 bt462.2.1 bt462.2.2.1 bt462.2.2.2.1 bt462.2.2.2.2.1 bt462.2.2.2.2.2.1))))
def dasdlaw20_NodeHalves.j1 : Nat → ByteArray → ByteArray → Bool → Int → Int → List (S32) → Int → Int → List (S32) → Int → Int → List (S32) → Option (Bool)
  | 0, _, _, _, _, _, _, _, _, _, _, _, _ => none
  | k + 1, x1, x7, x88, x460000, x460001, x460002, x475000, x475001, x475002, x476000, x476001, x476002 => if x88 = true then (some false) else (if (Op.bytesLess x1.toList x7.toList) = true then ((dasdlaw20_page.f x475000 x475001 x475002 x1).bind fun t479 => ((dasdlaw20_page.f x460000 x460001 x460002 x1).bind fun t480 => (some (t479 == t480)))) else ((dasdlaw20_page.f x476000 x476001 x476002 x1).bind fun t481 => ((dasdlaw20_page.f x460000 x460001 x460002 x1).bind fun t482 => (some (t481 == t482)))))
end
def dasdlaw20_NodeHalves.f (k : Nat) (a0_0 : Int) (a0_1 : Int) (l0_2 : List (S32)) (a1 : ByteArray) : Option (Bool) := (dasdlaw20_awake.f k).bind fun t460 => (if t460 = true then ((dasdref20_IsNode.f k a0_0 a0_1 l0_2).bind fun t461 => (if t461 = true then (dasdlaw20_NodeHalves.j0 k a1 (decide ((a1.size : Int) > 100)) a0_0 a0_1 l0_2) else (dasdlaw20_NodeHalves.j0 k a1 true a0_0 a0_1 l0_2))) else (some false))
theorem dasdlaw20_NodeHalves.mono_l : ∀ k, (∀ y0 y1 y2 y3 y4, LeO (dasdlaw20_NodeHalves.j0 k y0 y1 y2 y3 y4) (dasdlaw20_NodeHalves.j0 (k + 1) y0 y1 y2 y3 y4)) ∧ (∀ y0 y1 y2 y3 y4 y5 y6 y7 y8 y9 y10 y11, LeO (dasdlaw20_NodeHalves.j1 k y0 y1 y2 y3 y4 y5 y6 y7 y8 y9 y10 y11) (dasdlaw20_NodeHalves.j1 (k + 1) y0 y1 y2 y3 y4 y5 y6 y7 y8 y9 y10 y11))
  | 0 => ⟨fun _ _ _ _ _ r h => by simp [dasdlaw20_NodeHalves.j0] at h, fun _ _ _ _ _ _ _ _ _ _ _ _ r h => by simp [dasdlaw20_NodeHalves.j1] at h⟩
  | k + 1 => by
    obtain ⟨ih0, ih1⟩ := dasdlaw20_NodeHalves.mono_l k
    refine ⟨?_, ?_⟩
    · intro y0 y1 y2 y3 y4
      unfold dasdlaw20_NodeHalves.j0
      repeat' first
      | (with_reducible exact ih0 _ _ _ _ _)
      | (with_reducible exact ih1 _ _ _ _ _ _ _ _ _ _ _ _)
      | (with_reducible exact dasdlaw20_awake.mono _)
      | (with_reducible exact dasdref20_IsNode.mono _ _ _ _)
      | (with_reducible exact LeO.refl _)
      | (with_reducible exact LeO.none _)
      | (with_reducible refine LeO.ite ?_ ?_)
      | (with_reducible refine LeO.bind ?_ (fun _ => ?_))
      | exact ih0 _ _ _ _ _
      | exact ih1 _ _ _ _ _ _ _ _ _ _ _ _
      | exact dasdlaw20_awake.mono _
      | exact dasdref20_IsNode.mono _ _ _ _
      | exact LeO.none _
      | refine LeO.ite ?_ ?_
      | refine LeO.bind ?_ (fun _ => ?_)
    · intro y0 y1 y2 y3 y4 y5 y6 y7 y8 y9 y10 y11
      unfold dasdlaw20_NodeHalves.j1
      repeat' first
      | (with_reducible exact ih0 _ _ _ _ _)
      | (with_reducible exact ih1 _ _ _ _ _ _ _ _ _ _ _ _)
      | (with_reducible exact dasdlaw20_awake.mono _)
      | (with_reducible exact dasdref20_IsNode.mono _ _ _ _)
      | (with_reducible exact LeO.refl _)
      | (with_reducible exact LeO.none _)
      | (with_reducible refine LeO.ite ?_ ?_)
      | (with_reducible refine LeO.bind ?_ (fun _ => ?_))
      | exact ih0 _ _ _ _ _
      | exact ih1 _ _ _ _ _ _ _ _ _ _ _ _
      | exact dasdlaw20_awake.mono _
      | exact dasdref20_IsNode.mono _ _ _ _
      | exact LeO.none _
      | refine LeO.ite ?_ ?_
      | refine LeO.bind ?_ (fun _ => ?_)
theorem dasdlaw20_NodeHalves.mono : ∀ a0 a1 a2 a3 k, LeO (dasdlaw20_NodeHalves.f k a0 a1 a2 a3) (dasdlaw20_NodeHalves.f (k + 1) a0 a1 a2 a3) := by
  intro a0 a1 a2 a3 k
  obtain ⟨ih0, ih1⟩ := dasdlaw20_NodeHalves.mono_l k
  unfold dasdlaw20_NodeHalves.f
  repeat' first
      | (with_reducible exact ih0 _ _ _ _ _)
      | (with_reducible exact ih1 _ _ _ _ _ _ _ _ _ _ _ _)
      | (with_reducible exact dasdlaw20_awake.mono _)
      | (with_reducible exact dasdref20_IsNode.mono _ _ _ _)
      | (with_reducible exact LeO.refl _)
      | (with_reducible exact LeO.none _)
      | (with_reducible refine LeO.ite ?_ ?_)
      | (with_reducible refine LeO.bind ?_ (fun _ => ?_))
      | exact ih0 _ _ _ _ _
      | exact ih1 _ _ _ _ _ _ _ _ _ _ _ _
      | exact dasdlaw20_awake.mono _
      | exact dasdref20_IsNode.mono _ _ _ _
      | exact LeO.none _
      | refine LeO.ite ?_ ?_
      | refine LeO.bind ?_ (fun _ => ?_)
def dasdlaw20_NodeHalves.T13 : Bool × List (List Nat × List Nat) := (true, [([], []), ([], []), ([0, 1], [0, 1]), ([], []), ([], []), ([3, 4, 2], [3, 4]), ([2, 5], [2, 5]), ([6, 5, 0, 1, 2, 3, 4, 5, 6], [6])])
def dasdlaw20_NodeHalves.B13 : List Nat := [0, 0, 3, 0, 0, 31, 63, 127]
theorem dasdlaw20_NodeHalves.tab13 : rtab .any (opsOf Try.f9 13) = dasdlaw20_NodeHalves.T13 := by kernel_rfl
theorem dasdlaw20_NodeHalves.bits13 : waitsOk dasdlaw20_NodeHalves.T13.2 dasdlaw20_NodeHalves.B13 = true := by kernel_rfl
set_option maxHeartbeats 8000000 in
set_option maxRecDepth 100000 in
theorem dasdlaw20_NodeHalves.calls (k : Nat) (a0_0 : Int) (a0_1 : Int) (A0_2 : Option Addr) (c0_2 : Nat) (l0_2 : List (S32)) (a1 : ByteArray) (r : Bool) (w : World) (hr0_2 : Kd.C k32 w A0_2 l0_2.length l0_2) (hc0_2 : l0_2.length ≤ c0_2) (h : dasdlaw20_NodeHalves.f k a0_0 a0_1 l0_2 a1 = some r) :
    Calls Try.prog 9 #[.agg #[.int .i64 a0_0, .int .i64 a0_1, .slice A0_2 l0_2.length c0_2], .string a1] w fun e w' => e = .returned (.bool r) ∧ Below w.heap.size w w' := by
  have hu24 := Try.underlying24
  have HR0_2 := Aside0.mk hr0_2
  have HC0_2 := Aside0.mk hc0_2
  clear hr0_2 hc0_2
  have HB := Aside0.mk (Below.refl w.heap.size w)
  have H : ((dasdlaw20_awake.f k).bind fun t460 => (if t460 = true then ((dasdref20_IsNode.f k a0_0 a0_1 l0_2).bind fun t461 => (if t461 = true then (dasdlaw20_NodeHalves.j0 k a1 (decide ((a1.size : Int) > 100)) a0_0 a0_1 l0_2) else (dasdlaw20_NodeHalves.j0 k a1 true a0_0 a0_1 l0_2))) else (some false))) = some r := h
  clear h
  replace H := Option.bind_eq_some_iff.mp H
  obtain ⟨t460, A30, H⟩ := H
  replace H : (if t460 = true then ((dasdref20_IsNode.f k a0_0 a0_1 l0_2).bind fun t461 => (if t461 = true then (dasdlaw20_NodeHalves.j0 k a1 (decide ((a1.size : Int) > 100)) a0_0 a0_1 l0_2) else (dasdlaw20_NodeHalves.j0 k a1 true a0_0 a0_1 l0_2))) else (some false)) = some r := H
  have A3 := Aside0.mk A30
  clear A30
  by_cases c4 : t460 = true
  · subst c4
    have H1 : ((dasdref20_IsNode.f k a0_0 a0_1 l0_2).bind fun t461 => (if t461 = true then (dasdlaw20_NodeHalves.j0 k a1 (decide ((a1.size : Int) > 100)) a0_0 a0_1 l0_2) else (dasdlaw20_NodeHalves.j0 k a1 true a0_0 a0_1 l0_2))) = some r := by rw [if_pos rfl] at H; exact H
    clear H
    have H := H1
    clear H1
    have HC5 := Aside0.mk H
    clear H
    go_enter Try.func9, Try.ntmps9
    go_upto_region 3 with (first | ((with_reducible refine gate_dst (N := 2) rfl ?_); (try (refine gate_guard (by rfl) ?_; dsimp only)); refine box_event ?hg (N := 2) ?hd (cs := #[.int .i64 a0_0, .int .i64 a0_1, .slice A0_2 l0_2.length c0_2]) (t := 24) ?hr ?_; (case hd => rfl); (case hg => rfl); (case hr => first | (go_simp; done) | (go_simp; rfl)); intro gb459 hg w6 hbox hb; have n0_ := Aside0.mk (below_step (by repeat (first | (with_reducible first | exact HB.out | apply below_alloc | apply pw_below_drewN | apply below_drew1) | exact HB.out)) hb); have n1_ := Aside0.mk (hbox); have n2_ := Aside0.mk ((by rw [hg]; exact (below_size (by repeat (first | (with_reducible first | exact HB.out | apply below_alloc | apply pw_below_drewN | apply below_drew1) | exact HB.out))) : w.heap.size ≤ gb459)); have n3_ := Aside0.mk ((by rw [hg]; exact (below_size (by repeat (first | (with_reducible first | exact HB.out | apply below_alloc | apply pw_below_drewN | apply below_drew1) | exact HB.out))) : w.heap.size ≤ gb459)); clear HB; have HB := n0_; have BK459 := n1_; have GW459 := n2_; have GE459 := n3_; clear n0_ n1_ n2_ n3_; clear hb hbox hg) | ((with_reducible refine gate_callee (f := 10) rfl ?_); refine goesL_ (some 10) rfl rfl Try.func10 (by kernel_rfl) rfl #[] rfl (by (try simp only [List.map_toArray, List.map_cons, List.map_nil]); first | done | rfl | (simp only [List.length_drop, List.length_take]; rfl)) ?_; (with_reducible refine (dasdlaw20_awake.calls k  true _ A3.out).mono ?_); rintro e w7 ⟨rfl, hb⟩; refine ⟨_, rfl, ?_⟩; have n0_ := Aside0.mk (blk_below (g := gb459) (o := .cells #[.int .i64 a0_0, .int .i64 a0_1, .slice A0_2 l0_2.length c0_2] 24 (0, 0)) (by (with_reducible repeat (first | refine blk_drewN ?_ _ | refine blk_drew ?_ | refine blk_alloc ?_ _)); exact BK459.out) hb); have n1_ := Aside0.mk (below_step (by repeat (first | (with_reducible first | exact HB.out | apply below_alloc | apply pw_below_drewN | apply below_drew1 | refine below_set ?_ GE459.out) | exact HB.out)) hb); clear BK459; clear HB; have BK459 := n0_; have HB := n1_; clear n0_ n1_; (try clear hb); (try clear hb2); (try clear hk); (try clear hi)))
    (try simp only [Act.put, List.setIfInBounds_toArray, List.set_cons_zero, List.set_cons_succ])
    go_cut [19] (fun v19 wc => ∃ (kq : Nat) (x19_4 : Bool), v19 = .bool x19_4 ∧ Aside0 (dasdlaw20_NodeHalves.j0 kq a1 x19_4 a0_0 a0_1 l0_2 = some r) ∧ Aside0 (kq ≤ k) ∧ Aside0 (wc.heap[gb459]? = some (.cells #[.int .i64 a0_0, .int .i64 a0_1, (.slice A0_2 l0_2.length c0_2)] 24 (0, 0))) ∧ Aside0 (Below w.heap.size w wc))
    case first =>
      have H := HC5.out
      clear HC5
      replace H := Option.bind_eq_some_iff.mp H
      obtain ⟨t461, A80, H⟩ := H
      replace H : (if t461 = true then (dasdlaw20_NodeHalves.j0 k a1 (decide ((a1.size : Int) > 100)) a0_0 a0_1 l0_2) else (dasdlaw20_NodeHalves.j0 k a1 true a0_0 a0_1 l0_2)) = some r := H
      have A8 := Aside0.mk A80
      clear A80
      by_cases c9 : t461 = true
      · subst c9
        have H1 : (dasdlaw20_NodeHalves.j0 k a1 (decide ((a1.size : Int) > 100)) a0_0 a0_1 l0_2) = some r := by rw [if_pos rfl] at H; exact H
        clear H
        have H := H1
        clear H1
        have H' := Aside0.mk H
        clear H
        have hcz10_0 : w7.cell? ⟨gb459, 0, none⟩ = some (.int .i64 a0_0) := (blk_cell BK459.out 0).trans rfl
        have hcz10_1 : w7.cell? ⟨gb459, 1, none⟩ = some (.int .i64 a0_1) := (blk_cell BK459.out 1).trans rfl
        have hcz10_2 : w7.cell? ⟨gb459, 2, none⟩ = some (.slice A0_2 l0_2.length c0_2) := (blk_cell BK459.out 2).trans rfl
        have hfz10_0 := blk_frozen BK459.out 0
        have hfz10_1 := blk_frozen BK459.out 1
        have hfz10_2 := blk_frozen BK459.out 2
        go_wp2_with (first | ((with_reducible refine gate_callee (f := 11) rfl ?_); refine goesL_ (some 13) rfl rfl Try.func11 (by kernel_rfl) rfl #[.agg #[.int .i64 a0_0, .int .i64 a0_1, .slice A0_2 l0_2.length c0_2]] rfl (by (try simp only [List.map_toArray, List.map_cons, List.map_nil]); first | done | rfl | (simp only [List.length_drop, List.length_take]; rfl)) ?_; (with_reducible refine (dasdref20_IsNode.calls k a0_0 a0_1 _ _ l0_2 true _ ?side1 ?side2 A8.out).mono ?_); (case side1 => repeat (first | exact (Kd.C_below HR0_2.out HB.out) | (with_reducible refine Kd.C_alloc ?_ _) | (with_reducible refine Kd.C_drewN ?_ _) | (with_reducible refine Kd.C_drew ?_))); (case side2 => exact HC0_2.out); rintro e w11 ⟨rfl, hb⟩; refine ⟨_, rfl, ?_⟩; have n0_ := Aside0.mk (blk_below (g := gb459) (o := .cells #[.int .i64 a0_0, .int .i64 a0_1, .slice A0_2 l0_2.length c0_2] 24 (0, 0)) (by (with_reducible repeat (first | refine blk_drewN ?_ _ | refine blk_drew ?_ | refine blk_alloc ?_ _)); exact BK459.out) hb); have n1_ := Aside0.mk (below_step (by repeat (first | (with_reducible first | exact HB.out | apply below_alloc | apply pw_below_drewN | apply below_drew1 | refine below_set ?_ GE459.out) | exact HB.out)) hb); clear BK459; clear HB; have BK459 := n0_; have HB := n1_; clear n0_ n1_; (try clear hb); (try clear hb2); (try clear hk); (try clear hi)))
        go_meet
        case rel => exact ⟨_, (decide ((a1.size : Int) > 100)), (by first | rfl | (simp; done) | (simp [*]; done)), H', ⟨by first | omega | exact Nat.le_refl _⟩, ⟨by (with_reducible repeat (first | refine blk_drewN ?_ _ | refine blk_drew ?_ | refine blk_alloc ?_ _)); exact BK459.out⟩, ⟨by repeat (first | (with_reducible first | exact HB.out | apply below_alloc | apply pw_below_drewN | apply below_drew1 | refine below_set ?_ GE459.out) | exact HB.out)⟩⟩
      · replace c9 := Bool.eq_false_iff.mpr c9
        subst c9
        have H1 : (dasdlaw20_NodeHalves.j0 k a1 true a0_0 a0_1 l0_2) = some r := by rw [if_neg (show ¬ (false = true) by decide)] at H; exact H
        clear H
        have H := H1
        clear H1
        have H' := Aside0.mk H
        clear H
        have hcz12_0 : w7.cell? ⟨gb459, 0, none⟩ = some (.int .i64 a0_0) := (blk_cell BK459.out 0).trans rfl
        have hcz12_1 : w7.cell? ⟨gb459, 1, none⟩ = some (.int .i64 a0_1) := (blk_cell BK459.out 1).trans rfl
        have hcz12_2 : w7.cell? ⟨gb459, 2, none⟩ = some (.slice A0_2 l0_2.length c0_2) := (blk_cell BK459.out 2).trans rfl
        have hfz12_0 := blk_frozen BK459.out 0
        have hfz12_1 := blk_frozen BK459.out 1
        have hfz12_2 := blk_frozen BK459.out 2
        go_wp2_with (first | ((with_reducible refine gate_callee (f := 11) rfl ?_); refine goesL_ (some 13) rfl rfl Try.func11 (by kernel_rfl) rfl #[.agg #[.int .i64 a0_0, .int .i64 a0_1, .slice A0_2 l0_2.length c0_2]] rfl (by (try simp only [List.map_toArray, List.map_cons, List.map_nil]); first | done | rfl | (simp only [List.length_drop, List.length_take]; rfl)) ?_; (with_reducible refine (dasdref20_IsNode.calls k a0_0 a0_1 _ _ l0_2 false _ ?side1 ?side2 A8.out).mono ?_); (case side1 => repeat (first | exact (Kd.C_below HR0_2.out HB.out) | (with_reducible refine Kd.C_alloc ?_ _) | (with_reducible refine Kd.C_drewN ?_ _) | (with_reducible refine Kd.C_drew ?_))); (case side2 => exact HC0_2.out); rintro e w13 ⟨rfl, hb⟩; refine ⟨_, rfl, ?_⟩; have n0_ := Aside0.mk (blk_below (g := gb459) (o := .cells #[.int .i64 a0_0, .int .i64 a0_1, .slice A0_2 l0_2.length c0_2] 24 (0, 0)) (by (with_reducible repeat (first | refine blk_drewN ?_ _ | refine blk_drew ?_ | refine blk_alloc ?_ _)); exact BK459.out) hb); have n1_ := Aside0.mk (below_step (by repeat (first | (with_reducible first | exact HB.out | apply below_alloc | apply pw_below_drewN | apply below_drew1 | refine below_set ?_ GE459.out) | exact HB.out)) hb); clear BK459; clear HB; have BK459 := n0_; have HB := n1_; clear n0_ n1_; (try clear hb); (try clear hb2); (try clear hk); (try clear hi)))
        go_meet
        case rel => exact ⟨_, (true), (by first | rfl | (simp; done) | (simp [*]; done)), H', ⟨by first | omega | exact Nat.le_refl _⟩, ⟨by (with_reducible repeat (first | refine blk_drewN ?_ _ | refine blk_drew ?_ | refine blk_alloc ?_ _)); exact BK459.out⟩, ⟨by repeat (first | (with_reducible first | exact HB.out | apply below_alloc | apply pw_below_drewN | apply below_drew1 | refine below_set ?_ GE459.out) | exact HB.out)⟩⟩
    case rest =>
      clear HC5
      try clear c1
      try clear p2
      try clear c4
      try clear c9
      try clear c10
      try clear c11
      try clear hcz10_0
      try clear hcz10_1
      try clear hcz10_2
      try clear hcz12_0
      try clear hcz12_1
      try clear hcz12_2
      try clear hfz10_0
      try clear hfz10_1
      try clear hfz10_2
      try clear hfz12_0
      try clear hfz12_1
      try clear hfz12_2
      obtain ⟨kq, x19_4, rfl, HA, HJ4, BK459, HB⟩ := hcut
      cases kq with
      | zero => exact absurd HA.out (by simp [dasdlaw20_NodeHalves.j0])
      | succ kj4 =>
        have H := HA.out
        clear HA
        simp only [dasdlaw20_NodeHalves.j0] at H
        by_cases c14 : x19_4 = true
        · subst c14
          have H1 : (some true) = some r := by rw [if_pos rfl] at H; exact H
          clear H
          have H := H1
          clear H1
          obtain rfl := Option.some.inj H
          go_wp2
          go_ret
          exact ⟨by first | rfl | (simp [errW_none, errW_some] <;> rfl) | (simp [*, errW_none, errW_some] <;> rfl), by repeat (first | (with_reducible first | exact HB.out | apply below_alloc | apply pw_below_drewN | apply below_drew1 | refine below_set ?_ GE459.out) | exact HB.out)⟩
        · replace c14 := Bool.eq_false_iff.mpr c14
          subst c14
          have H1 : ((node_Split.f a0_0 a0_1 l0_2).bind fun bt462 => (if (l0_2.length : Int) = 1 then (some (bt462.2.2.2.2.2.2.2 == 9)) else (if bt462.2.2.2.2.2.2.2 = 0 then ((dasdref20_IsNode.f kj4 bt462.1 bt462.2.1 bt462.2.2.1).bind fun t476 => (if t476 = true then ((dasdref20_IsNode.f kj4 bt462.2.2.2.1 bt462.2.2.2.2.1 bt462.2.2.2.2.2.1).bind fun t477 => (if t477 = true then (if (wrap64 ((bt462.2.2.1.length : Int) + (bt462.2.2.2.2.2.1.length : Int))) = (l0_2.length : Int) then (if (wrap64 ((bt462.2.2.1.length : Int) - (bt462.2.2.2.2.2.1.length : Int))) < 0 then (dasdlaw20_NodeHalves.j1 kj4 a1 bt462.2.2.2.2.2.2.1 true a0_0 a0_1 l0_2 bt462.1 bt462.2.1 bt462.2.2.1 bt462.2.2.2.1 bt462.2.2.2.2.1 bt462.2.2.2.2.2.1) else (if (wrap64 ((bt462.2.2.1.length : Int) - (bt462.2.2.2.2.2.1.length : Int))) > 1 then (dasdlaw20_NodeHalves.j1 kj4 a1 bt462.2.2.2.2.2.2.1 true a0_0 a0_1 l0_2 bt462.1 bt462.2.1 bt462.2.2.1 bt462.2.2.2.1 bt462.2.2.2.2.1 bt462.2.2.2.2.2.1) else (if bt462.2.2.2.2.2.2.1.toList = ([] : List UInt8) then (dasdlaw20_NodeHalves.j1 kj4 a1 bt462.2.2.2.2.2.2.1 true a0_0 a0_1 l0_2 bt462.1 bt462.2.1 bt462.2.2.1 bt462.2.2.2.1 bt462.2.2.2.2.1 bt462.2.2.2.2.2.1) else (dasdlaw20_NodeHalves.j1 kj4 a1 bt462.2.2.2.2.2.2.1 (bt462.2.2.2.2.1 != a0_1) a0_0 a0_1 l0_2 bt462.1 bt462.2.1 bt462.2.2.1 bt462.2.2.2.1 bt462.2.2.2.2.1 bt462.2.2.2.2.2.1)))) else (dasdlaw20_NodeHalves.j1 kj4 a1 bt462.2.2.2.2.2.2.1 true a0_0 a0_1 l0_2 bt462.1 bt462.2.1 bt462.2.2.1 bt462.2.2.2.1 bt462.2.2.2.2.1 bt462.2.2.2.2.2.1)) else (dasdlaw20_NodeHalves.j1 kj4 a1 bt462.2.2.2.2.2.2.1 true a0_0 a0_1 l0_2 bt462.1 bt462.2.1 bt462.2.2.1 bt462.2.2.2.1 bt462.2.2.2.2.1 bt462.2.2.2.2.2.1))) else (dasdlaw20_NodeHalves.j1 kj4 a1 bt462.2.2.2.2.2.2.1 true a0_0 a0_1 l0_2 bt462.1 bt462.2.1 bt462.2.2.1 bt462.2.2.2.1 bt462.2.2.2.2.1 bt462.2.2.2.2.2.1))) else (dasdlaw20_NodeHalves.j1 kj4 a1 bt462.2.2.2.2.2.2.1 true a0_0 a0_1 l0_2 bt462.1 bt462.2.1 bt462.2.2.1 bt462.2.2.2.1 bt462.2.2.2.2.1 bt462.2.2.2.2.2.1)))) = some r := by rw [if_neg (show ¬ (false = true) by decide)] at H; exact H
          clear H
          have H := H1
          clear H1
          replace H := Option.bind_eq_some_iff.mp H
          obtain ⟨⟨t462, t463, t464, t467, t468, t469, t472, t473⟩, A150, H⟩ := H
          replace H : (if (l0_2.length : Int) = 1 then (some (t473 == 9)) else (if t473 = 0 then ((dasdref20_IsNode.f kj4 t462 t463 t464).bind fun t476 => (if t476 = true then ((dasdref20_IsNode.f kj4 t467 t468 t469).bind fun t477 => (if t477 = true then (if (wrap64 ((t464.length : Int) + (t469.length : Int))) = (l0_2.length : Int) then (if (wrap64 ((t464.length : Int) - (t469.length : Int))) < 0 then (dasdlaw20_NodeHalves.j1 kj4 a1 t472 true a0_0 a0_1 l0_2 t462 t463 t464 t467 t468 t469) else (if (wrap64 ((t464.length : Int) - (t469.length : Int))) > 1 then (dasdlaw20_NodeHalves.j1 kj4 a1 t472 true a0_0 a0_1 l0_2 t462 t463 t464 t467 t468 t469) else (if t472.toList = ([] : List UInt8) then (dasdlaw20_NodeHalves.j1 kj4 a1 t472 true a0_0 a0_1 l0_2 t462 t463 t464 t467 t468 t469) else (dasdlaw20_NodeHalves.j1 kj4 a1 t472 (t468 != a0_1) a0_0 a0_1 l0_2 t462 t463 t464 t467 t468 t469)))) else (dasdlaw20_NodeHalves.j1 kj4 a1 t472 true a0_0 a0_1 l0_2 t462 t463 t464 t467 t468 t469)) else (dasdlaw20_NodeHalves.j1 kj4 a1 t472 true a0_0 a0_1 l0_2 t462 t463 t464 t467 t468 t469))) else (dasdlaw20_NodeHalves.j1 kj4 a1 t472 true a0_0 a0_1 l0_2 t462 t463 t464 t467 t468 t469))) else (dasdlaw20_NodeHalves.j1 kj4 a1 t472 true a0_0 a0_1 l0_2 t462 t463 t464 t467 t468 t469))) = some r := H
          have A15 := Aside0.mk A150
          clear A150
          by_cases c16 : (l0_2.length : Int) = 1
          · rw [if_pos c16] at H
            have c16b0 : ((l0_2.length : Int) == 1) = true := beq_iff_eq.mpr c16
            have c16b1 : ((l0_2.length : Int) != 1) = false := bne_eq_false_iff_eq.mpr c16
            clear c16
            obtain rfl := Option.some.inj H
            have hcz17_0 : wc.cell? ⟨gb459, 0, none⟩ = some (.int .i64 a0_0) := (blk_cell BK459.out 0).trans rfl
            have hcz17_1 : wc.cell? ⟨gb459, 1, none⟩ = some (.int .i64 a0_1) := (blk_cell BK459.out 1).trans rfl
            have hcz17_2 : wc.cell? ⟨gb459, 2, none⟩ = some (.slice A0_2 l0_2.length c0_2) := (blk_cell BK459.out 2).trans rfl
            have hfz17_0 := blk_frozen BK459.out 0
            have hfz17_1 := blk_frozen BK459.out 1
            have hfz17_2 := blk_frozen BK459.out 2
            go_wp2_with (first | ((with_reducible refine gate_callee (f := 17) rfl ?_); refine goesL_ (some 22) rfl rfl Try.func17 (by kernel_rfl) rfl #[.agg #[.int .i64 a0_0, .int .i64 a0_1, .slice A0_2 l0_2.length c0_2]] rfl (by (try simp only [List.map_toArray, List.map_cons, List.map_nil]); first | done | rfl | (simp only [List.length_drop, List.length_take]; rfl)) ?_; (with_reducible refine (node_Split.calls a0_0 a0_1 _ _ l0_2 t462 t463 t464 t467 t468 t469 t472 t473 _ ?side1 ?side2 A15.out).mono ?_); (case side1 => repeat (first | exact (Kd.C_below HR0_2.out HB.out) | (with_reducible refine Kd.C_alloc ?_ _) | (with_reducible refine Kd.C_drewN ?_ _) | (with_reducible refine Kd.C_drew ?_))); (case side2 => exact HC0_2.out); rintro e w18 ⟨v465, v470, rfl, ho0, ho1, hb⟩; refine ⟨_, rfl, ?_⟩; have n0_ := Aside0.mk (Kd.V_lower (Kd.V_mono (ok' := fun k_ => k_ ≠ gb459) ho0 (fun k_ hk_ => (Kd.freshB (g := gb459) (o := .cells #[.int .i64 a0_0, .int .i64 a0_1, .slice A0_2 l0_2.length c0_2] 24 (0, 0)) (by (with_reducible repeat (first | refine blk_drewN ?_ _ | refine blk_drew ?_ | refine blk_alloc ?_ _)); exact BK459.out) k_ hk_))) (below_size (by repeat (first | (with_reducible first | exact HB.out | apply below_alloc | apply pw_below_drewN | apply below_drew1 | refine below_set ?_ GE459.out) | exact HB.out)))); have n1_ := Aside0.mk (Kd.V_lower (Kd.V_mono (ok' := fun k_ => k_ ≠ gb459) ho1 (fun k_ hk_ => (Kd.freshB (g := gb459) (o := .cells #[.int .i64 a0_0, .int .i64 a0_1, .slice A0_2 l0_2.length c0_2] 24 (0, 0)) (by (with_reducible repeat (first | refine blk_drewN ?_ _ | refine blk_drew ?_ | refine blk_alloc ?_ _)); exact BK459.out) k_ hk_))) (below_size (by repeat (first | (with_reducible first | exact HB.out | apply below_alloc | apply pw_below_drewN | apply below_drew1 | refine below_set ?_ GE459.out) | exact HB.out)))); have n2_ := Aside0.mk (blk_below (g := gb459) (o := .cells #[.int .i64 a0_0, .int .i64 a0_1, .slice A0_2 l0_2.length c0_2] 24 (0, 0)) (by (with_reducible repeat (first | refine blk_drewN ?_ _ | refine blk_drew ?_ | refine blk_alloc ?_ _)); exact BK459.out) hb); have n3_ := Aside0.mk (below_step (by repeat (first | (with_reducible first | exact HB.out | apply below_alloc | apply pw_below_drewN | apply below_drew1 | refine below_set ?_ GE459.out) | exact HB.out)) hb); clear BK459; clear HB; have HO466 := n0_; have HO471 := n1_; have BK459 := n2_; have HB := n3_; clear n0_ n1_ n2_ n3_; (try clear hb); (try clear hb2); (try clear hk); (try clear hi); (try clear ho0); (try clear ho1)) | ((with_reducible refine gate_dst (N := 5) rfl ?_); (try (refine gate_guard (by rfl) ?_; dsimp only)); refine box_event ?hg (N := 5) ?hd (cs := #[.int .i64 0, .int .i64 0, .slice none 0 0]) (t := 24) ?hr ?_; (case hd => rfl); (case hg => rfl); (case hr => first | (go_simp; done) | (go_simp; rfl)); intro gb474 hg w19 hbox hb; have n0_ := Aside0.mk (Kd.V_below (Kd.V_elderB (by (with_reducible repeat (first | apply Kd.V_alloc | apply Kd.V_drewN | apply Kd.V_drew)); exact HO466.out) gb474 (Nat.le_of_eq hg.symm)) hb); have n1_ := Aside0.mk (Kd.V_below (Kd.V_elderB (by (with_reducible repeat (first | apply Kd.V_alloc | apply Kd.V_drewN | apply Kd.V_drew)); exact HO471.out) gb474 (Nat.le_of_eq hg.symm)) hb); have n2_ := Aside0.mk (blk_below (g := gb459) (o := .cells #[.int .i64 a0_0, .int .i64 a0_1, .slice A0_2 l0_2.length c0_2] 24 (0, 0)) (by (with_reducible repeat (first | refine blk_drewN ?_ _ | refine blk_drew ?_ | refine blk_alloc ?_ _)); exact BK459.out) hb); have n3_ := Aside0.mk (below_step (by repeat (first | (with_reducible first | exact HB.out | apply below_alloc | apply pw_below_drewN | apply below_drew1 | refine below_set ?_ GE459.out) | exact HB.out)) hb); have n4_ := Aside0.mk (hbox); have n5_ := Aside0.mk ((by rw [hg]; exact (below_size (by repeat (first | (with_reducible first | exact HB.out | apply below_alloc | apply pw_below_drewN | apply below_drew1 | refine below_set ?_ GE459.out) | exact HB.out))) : w.heap.size ≤ gb474)); have n6_ := Aside0.mk ((by rw [hg]; exact (below_size (by repeat (first | (with_reducible first | exact HB.out | apply below_alloc | apply pw_below_drewN | apply below_drew1 | refine below_set ?_ GE459.out) | exact HB.out))) : w.heap.size ≤ gb474)); have n7_ := Aside0.mk ((by rw [hg]; exact Nat.ne_of_lt (blk_lt (g := gb459) (o := .cells #[.int .i64 a0_0, .int .i64 a0_1, .slice A0_2 l0_2.length c0_2] 24 (0, 0)) (by (with_reducible repeat (first | refine blk_drewN ?_ _ | refine blk_drew ?_ | refine blk_alloc ?_ _)); exact BK459.out)) : gb459 ≠ gb474)); have n8_ := Aside0.mk ((by rw [hg]; exact Nat.ne_of_gt (blk_lt (g := gb459) (o := .cells #[.int .i64 a0_0, .int .i64 a0_1, .slice A0_2 l0_2.length c0_2] 24 (0, 0)) (by (with_reducible repeat (first | refine blk_drewN ?_ _ | refine blk_drew ?_ | refine blk_alloc ?_ _)); exact BK459.out)) : gb474 ≠ gb459)); clear HO466; clear HO471; clear BK459; clear HB; have HO466 := n0_; have HO471 := n1_; have BK459 := n2_; have HB := n3_; have BK474 := n4_; have GW474 := n5_; have GE474 := n6_; have NB459_474 := n7_; have NB474_459 := n8_; clear n0_ n1_ n2_ n3_ n4_ n5_ n6_ n7_ n8_; clear hb hbox hg) | ((with_reducible refine gate_dst (N := 6) rfl ?_); (try (refine gate_guard (by rfl) ?_; dsimp only)); refine box_event ?hg (N := 6) ?hd (cs := #[.int .i64 0, .int .i64 0, .slice none 0 0]) (t := 24) ?hr ?_; (case hd => rfl); (case hg => rfl); (case hr => first | (go_simp; done) | (go_simp; rfl)); intro gb475 hg w20 hbox hb; have n0_ := Aside0.mk (Kd.V_below (Kd.V_elderB (by (with_reducible repeat (first | apply Kd.V_alloc | apply Kd.V_drewN | apply Kd.V_drew)); exact HO466.out) gb475 (Nat.le_of_eq hg.symm)) hb); have n1_ := Aside0.mk (Kd.V_below (Kd.V_elderB (by (with_reducible repeat (first | apply Kd.V_alloc | apply Kd.V_drewN | apply Kd.V_drew)); exact HO471.out) gb475 (Nat.le_of_eq hg.symm)) hb); have n2_ := Aside0.mk (blk_below (g := gb459) (o := .cells #[.int .i64 a0_0, .int .i64 a0_1, .slice A0_2 l0_2.length c0_2] 24 (0, 0)) (by (with_reducible repeat (first | refine blk_drewN ?_ _ | refine blk_drew ?_ | refine blk_alloc ?_ _)); exact BK459.out) hb); have n3_ := Aside0.mk (blk_below (g := gb474) (o := .cells #[.int .i64 0, .int .i64 0, .slice none 0 0] 24 (0, 0)) (by (with_reducible repeat (first | refine blk_drewN ?_ _ | refine blk_drew ?_ | refine blk_alloc ?_ _)); exact BK474.out) hb); have n4_ := Aside0.mk (below_step (by repeat (first | (with_reducible first | exact HB.out | apply below_alloc | apply pw_below_drewN | apply below_drew1 | refine below_set ?_ GE459.out | refine below_set ?_ GE474.out) | exact HB.out)) hb); have n5_ := Aside0.mk (hbox); have n6_ := Aside0.mk ((by rw [hg]; exact (below_size (by repeat (first | (with_reducible first | exact HB.out | apply below_alloc | apply pw_below_drewN | apply below_drew1 | refine below_set ?_ GE459.out | refine below_set ?_ GE474.out) | exact HB.out))) : w.heap.size ≤ gb475)); have n7_ := Aside0.mk ((by rw [hg]; exact (below_size (by repeat (first | (with_reducible first | exact HB.out | apply below_alloc | apply pw_below_drewN | apply below_drew1 | refine below_set ?_ GE459.out | refine below_set ?_ GE474.out) | exact HB.out))) : w.heap.size ≤ gb475)); have n8_ := Aside0.mk ((by rw [hg]; exact Nat.ne_of_lt (blk_lt (g := gb459) (o := .cells #[.int .i64 a0_0, .int .i64 a0_1, .slice A0_2 l0_2.length c0_2] 24 (0, 0)) (by (with_reducible repeat (first | refine blk_drewN ?_ _ | refine blk_drew ?_ | refine blk_alloc ?_ _)); exact BK459.out)) : gb459 ≠ gb475)); have n9_ := Aside0.mk ((by rw [hg]; exact Nat.ne_of_gt (blk_lt (g := gb459) (o := .cells #[.int .i64 a0_0, .int .i64 a0_1, .slice A0_2 l0_2.length c0_2] 24 (0, 0)) (by (with_reducible repeat (first | refine blk_drewN ?_ _ | refine blk_drew ?_ | refine blk_alloc ?_ _)); exact BK459.out)) : gb475 ≠ gb459)); have n10_ := Aside0.mk ((by rw [hg]; exact Nat.ne_of_lt (blk_lt (g := gb474) (o := .cells #[.int .i64 0, .int .i64 0, .slice none 0 0] 24 (0, 0)) (by (with_reducible repeat (first | refine blk_drewN ?_ _ | refine blk_drew ?_ | refine blk_alloc ?_ _)); exact BK474.out)) : gb474 ≠ gb475)); have n11_ := Aside0.mk ((by rw [hg]; exact Nat.ne_of_gt (blk_lt (g := gb474) (o := .cells #[.int .i64 0, .int .i64 0, .slice none 0 0] 24 (0, 0)) (by (with_reducible repeat (first | refine blk_drewN ?_ _ | refine blk_drew ?_ | refine blk_alloc ?_ _)); exact BK474.out)) : gb475 ≠ gb474)); clear HO466; clear HO471; clear BK459; clear BK474; clear HB; have HO466 := n0_; have HO471 := n1_; have BK459 := n2_; have BK474 := n3_; have HB := n4_; have BK475 := n5_; have GW475 := n6_; have GE475 := n7_; have NB459_475 := n8_; have NB475_459 := n9_; have NB474_475 := n10_; have NB475_474 := n11_; clear n0_ n1_ n2_ n3_ n4_ n5_ n6_ n7_ n8_ n9_ n10_ n11_; clear hb hbox hg; have hnb21 := NB474_459.out; have hnc21 := NB459_474.out; have hnb22 := NB474_475.out; have hnc22 := NB475_474.out; have hcz23_0 : w20.cell? ⟨gb474, 0, none⟩ = some (.int .i64 0) := (blk_cell BK474.out 0).trans rfl; have hcz23_1 : w20.cell? ⟨gb474, 1, none⟩ = some (.int .i64 0) := (blk_cell BK474.out 1).trans rfl; have hcz23_2 : w20.cell? ⟨gb474, 2, none⟩ = some (.slice none 0 0) := (blk_cell BK474.out 2).trans rfl; have hfz23_0 := blk_frozen BK474.out 0; have hfz23_1 := blk_frozen BK474.out 1; have hfz23_2 := blk_frozen BK474.out 2; obtain ⟨Ao24, co24, eo24⟩ := Kd.V_slice HO466.out; subst eo24; have hnb25 := NB475_459.out; have hnc25 := NB459_475.out; have hcz26_0 : w20.cell? ⟨gb475, 0, none⟩ = some (.int .i64 0) := (blk_cell BK475.out 0).trans rfl; have hcz26_1 : w20.cell? ⟨gb475, 1, none⟩ = some (.int .i64 0) := (blk_cell BK475.out 1).trans rfl; have hcz26_2 : w20.cell? ⟨gb475, 2, none⟩ = some (.slice none 0 0) := (blk_cell BK475.out 2).trans rfl; have hfz26_0 := blk_frozen BK475.out 0; have hfz26_1 := blk_frozen BK475.out 1; have hfz26_2 := blk_frozen BK475.out 2; obtain ⟨Ao27, co27, eo27⟩ := Kd.V_slice HO471.out; subst eo27; have hcz28_0 : w20.cell? ⟨gb459, 0, none⟩ = some (.int .i64 a0_0) := (blk_cell BK459.out 0).trans rfl; have hcz28_1 : w20.cell? ⟨gb459, 1, none⟩ = some (.int .i64 a0_1) := (blk_cell BK459.out 1).trans rfl; have hcz28_2 : w20.cell? ⟨gb459, 2, none⟩ = some (.slice A0_2 l0_2.length c0_2) := (blk_cell BK459.out 2).trans rfl; have hfz28_0 := blk_frozen BK459.out 0; have hfz28_1 := blk_frozen BK459.out 1; have hfz28_2 := blk_frozen BK459.out 2))
            go_ret
            exact ⟨by first | rfl | (simp [errW_none, errW_some] <;> rfl) | (simp [*, errW_none, errW_some] <;> rfl), by repeat (first | (with_reducible first | exact HB.out | apply below_alloc | apply pw_below_drewN | apply below_drew1 | refine below_set ?_ GE459.out | refine below_set ?_ GE474.out | refine below_set ?_ GE475.out) | exact HB.out)⟩
          · rw [if_neg c16] at H
            have c16b0 : ((l0_2.length : Int) == 1) = false := beq_eq_false_iff_ne.mpr c16
            have c16b1 : ((l0_2.length : Int) != 1) = true := bne_iff_ne.mpr c16
            have HC29 := Aside0.mk H
            clear H
            have hcz30_0 : wc.cell? ⟨gb459, 0, none⟩ = some (.int .i64 a0_0) := (blk_cell BK459.out 0).trans rfl
            have hcz30_1 : wc.cell? ⟨gb459, 1, none⟩ = some (.int .i64 a0_1) := (blk_cell BK459.out 1).trans rfl
            have hcz30_2 : wc.cell? ⟨gb459, 2, none⟩ = some (.slice A0_2 l0_2.length c0_2) := (blk_cell BK459.out 2).trans rfl
            have hfz30_0 := blk_frozen BK459.out 0
            have hfz30_1 := blk_frozen BK459.out 1
            have hfz30_2 := blk_frozen BK459.out 2
            go_upto_region 8 with (first | ((with_reducible refine gate_callee (f := 17) rfl ?_); refine goesL_ (some 22) rfl rfl Try.func17 (by kernel_rfl) rfl #[.agg #[.int .i64 a0_0, .int .i64 a0_1, .slice A0_2 l0_2.length c0_2]] rfl (by (try simp only [List.map_toArray, List.map_cons, List.map_nil]); first | done | rfl | (simp only [List.length_drop, List.length_take]; rfl)) ?_; (with_reducible refine (node_Split.calls a0_0 a0_1 _ _ l0_2 t462 t463 t464 t467 t468 t469 t472 t473 _ ?side1 ?side2 A15.out).mono ?_); (case side1 => repeat (first | exact (Kd.C_below HR0_2.out HB.out) | (with_reducible refine Kd.C_alloc ?_ _) | (with_reducible refine Kd.C_drewN ?_ _) | (with_reducible refine Kd.C_drew ?_))); (case side2 => exact HC0_2.out); rintro e w31 ⟨v465, v470, rfl, ho0, ho1, hb⟩; refine ⟨_, rfl, ?_⟩; have n0_ := Aside0.mk (Kd.V_lower (Kd.V_mono (ok' := fun k_ => k_ ≠ gb459) ho0 (fun k_ hk_ => (Kd.freshB (g := gb459) (o := .cells #[.int .i64 a0_0, .int .i64 a0_1, .slice A0_2 l0_2.length c0_2] 24 (0, 0)) (by (with_reducible repeat (first | refine blk_drewN ?_ _ | refine blk_drew ?_ | refine blk_alloc ?_ _)); exact BK459.out) k_ hk_))) (below_size (by repeat (first | (with_reducible first | exact HB.out | apply below_alloc | apply pw_below_drewN | apply below_drew1 | refine below_set ?_ GE459.out) | exact HB.out)))); have n1_ := Aside0.mk (Kd.V_lower (Kd.V_mono (ok' := fun k_ => k_ ≠ gb459) ho1 (fun k_ hk_ => (Kd.freshB (g := gb459) (o := .cells #[.int .i64 a0_0, .int .i64 a0_1, .slice A0_2 l0_2.length c0_2] 24 (0, 0)) (by (with_reducible repeat (first | refine blk_drewN ?_ _ | refine blk_drew ?_ | refine blk_alloc ?_ _)); exact BK459.out) k_ hk_))) (below_size (by repeat (first | (with_reducible first | exact HB.out | apply below_alloc | apply pw_below_drewN | apply below_drew1 | refine below_set ?_ GE459.out) | exact HB.out)))); have n2_ := Aside0.mk (blk_below (g := gb459) (o := .cells #[.int .i64 a0_0, .int .i64 a0_1, .slice A0_2 l0_2.length c0_2] 24 (0, 0)) (by (with_reducible repeat (first | refine blk_drewN ?_ _ | refine blk_drew ?_ | refine blk_alloc ?_ _)); exact BK459.out) hb); have n3_ := Aside0.mk (below_step (by repeat (first | (with_reducible first | exact HB.out | apply below_alloc | apply pw_below_drewN | apply below_drew1 | refine below_set ?_ GE459.out) | exact HB.out)) hb); clear BK459; clear HB; have HO466 := n0_; have HO471 := n1_; have BK459 := n2_; have HB := n3_; clear n0_ n1_ n2_ n3_; (try clear hb); (try clear hb2); (try clear hk); (try clear hi); (try clear ho0); (try clear ho1)) | ((with_reducible refine gate_dst (N := 5) rfl ?_); (try (refine gate_guard (by rfl) ?_; dsimp only)); refine box_event ?hg (N := 5) ?hd (cs := #[.int .i64 0, .int .i64 0, .slice none 0 0]) (t := 24) ?hr ?_; (case hd => rfl); (case hg => rfl); (case hr => first | (go_simp; done) | (go_simp; rfl)); intro gb474 hg w32 hbox hb; have n0_ := Aside0.mk (Kd.V_below (Kd.V_elderB (by (with_reducible repeat (first | apply Kd.V_alloc | apply Kd.V_drewN | apply Kd.V_drew)); exact HO466.out) gb474 (Nat.le_of_eq hg.symm)) hb); have n1_ := Aside0.mk (Kd.V_below (Kd.V_elderB (by (with_reducible repeat (first | apply Kd.V_alloc | apply Kd.V_drewN | apply Kd.V_drew)); exact HO471.out) gb474 (Nat.le_of_eq hg.symm)) hb); have n2_ := Aside0.mk (blk_below (g := gb459) (o := .cells #[.int .i64 a0_0, .int .i64 a0_1, .slice A0_2 l0_2.length c0_2] 24 (0, 0)) (by (with_reducible repeat (first | refine blk_drewN ?_ _ | refine blk_drew ?_ | refine blk_alloc ?_ _)); exact BK459.out) hb); have n3_ := Aside0.mk (below_step (by repeat (first | (with_reducible first | exact HB.out | apply below_alloc | apply pw_below_drewN | apply below_drew1 | refine below_set ?_ GE459.out) | exact HB.out)) hb); have n4_ := Aside0.mk (hbox); have n5_ := Aside0.mk ((by rw [hg]; exact (below_size (by repeat (first | (with_reducible first | exact HB.out | apply below_alloc | apply pw_below_drewN | apply below_drew1 | refine below_set ?_ GE459.out) | exact HB.out))) : w.heap.size ≤ gb474)); have n6_ := Aside0.mk ((by rw [hg]; exact (below_size (by repeat (first | (with_reducible first | exact HB.out | apply below_alloc | apply pw_below_drewN | apply below_drew1 | refine below_set ?_ GE459.out) | exact HB.out))) : w.heap.size ≤ gb474)); have n7_ := Aside0.mk ((by rw [hg]; exact Nat.ne_of_lt (blk_lt (g := gb459) (o := .cells #[.int .i64 a0_0, .int .i64 a0_1, .slice A0_2 l0_2.length c0_2] 24 (0, 0)) (by (with_reducible repeat (first | refine blk_drewN ?_ _ | refine blk_drew ?_ | refine blk_alloc ?_ _)); exact BK459.out)) : gb459 ≠ gb474)); have n8_ := Aside0.mk ((by rw [hg]; exact Nat.ne_of_gt (blk_lt (g := gb459) (o := .cells #[.int .i64 a0_0, .int .i64 a0_1, .slice A0_2 l0_2.length c0_2] 24 (0, 0)) (by (with_reducible repeat (first | refine blk_drewN ?_ _ | refine blk_drew ?_ | refine blk_alloc ?_ _)); exact BK459.out)) : gb474 ≠ gb459)); clear HO466; clear HO471; clear BK459; clear HB; have HO466 := n0_; have HO471 := n1_; have BK459 := n2_; have HB := n3_; have BK474 := n4_; have GW474 := n5_; have GE474 := n6_; have NB459_474 := n7_; have NB474_459 := n8_; clear n0_ n1_ n2_ n3_ n4_ n5_ n6_ n7_ n8_; clear hb hbox hg) | ((with_reducible refine gate_dst (N := 6) rfl ?_); (try (refine gate_guard (by rfl) ?_; dsimp only)); refine box_event ?hg (N := 6) ?hd (cs := #[.int .i64 0, .int .i64 0, .slice none 0 0]) (t := 24) ?hr ?_; (case hd => rfl); (case hg => rfl); (case hr => first | (go_simp; done) | (go_simp; rfl)); intro gb475 hg w33 hbox hb; have n0_ := Aside0.mk (Kd.V_below (Kd.V_elderB (by (with_reducible repeat (first | apply Kd.V_alloc | apply Kd.V_drewN | apply Kd.V_drew)); exact HO466.out) gb475 (Nat.le_of_eq hg.symm)) hb); have n1_ := Aside0.mk (Kd.V_below (Kd.V_elderB (by (with_reducible repeat (first | apply Kd.V_alloc | apply Kd.V_drewN | apply Kd.V_drew)); exact HO471.out) gb475 (Nat.le_of_eq hg.symm)) hb); have n2_ := Aside0.mk (blk_below (g := gb459) (o := .cells #[.int .i64 a0_0, .int .i64 a0_1, .slice A0_2 l0_2.length c0_2] 24 (0, 0)) (by (with_reducible repeat (first | refine blk_drewN ?_ _ | refine blk_drew ?_ | refine blk_alloc ?_ _)); exact BK459.out) hb); have n3_ := Aside0.mk (blk_below (g := gb474) (o := .cells #[.int .i64 0, .int .i64 0, .slice none 0 0] 24 (0, 0)) (by (with_reducible repeat (first | refine blk_drewN ?_ _ | refine blk_drew ?_ | refine blk_alloc ?_ _)); exact BK474.out) hb); have n4_ := Aside0.mk (below_step (by repeat (first | (with_reducible first | exact HB.out | apply below_alloc | apply pw_below_drewN | apply below_drew1 | refine below_set ?_ GE459.out | refine below_set ?_ GE474.out) | exact HB.out)) hb); have n5_ := Aside0.mk (hbox); have n6_ := Aside0.mk ((by rw [hg]; exact (below_size (by repeat (first | (with_reducible first | exact HB.out | apply below_alloc | apply pw_below_drewN | apply below_drew1 | refine below_set ?_ GE459.out | refine below_set ?_ GE474.out) | exact HB.out))) : w.heap.size ≤ gb475)); have n7_ := Aside0.mk ((by rw [hg]; exact (below_size (by repeat (first | (with_reducible first | exact HB.out | apply below_alloc | apply pw_below_drewN | apply below_drew1 | refine below_set ?_ GE459.out | refine below_set ?_ GE474.out) | exact HB.out))) : w.heap.size ≤ gb475)); have n8_ := Aside0.mk ((by rw [hg]; exact Nat.ne_of_lt (blk_lt (g := gb459) (o := .cells #[.int .i64 a0_0, .int .i64 a0_1, .slice A0_2 l0_2.length c0_2] 24 (0, 0)) (by (with_reducible repeat (first | refine blk_drewN ?_ _ | refine blk_drew ?_ | refine blk_alloc ?_ _)); exact BK459.out)) : gb459 ≠ gb475)); have n9_ := Aside0.mk ((by rw [hg]; exact Nat.ne_of_gt (blk_lt (g := gb459) (o := .cells #[.int .i64 a0_0, .int .i64 a0_1, .slice A0_2 l0_2.length c0_2] 24 (0, 0)) (by (with_reducible repeat (first | refine blk_drewN ?_ _ | refine blk_drew ?_ | refine blk_alloc ?_ _)); exact BK459.out)) : gb475 ≠ gb459)); have n10_ := Aside0.mk ((by rw [hg]; exact Nat.ne_of_lt (blk_lt (g := gb474) (o := .cells #[.int .i64 0, .int .i64 0, .slice none 0 0] 24 (0, 0)) (by (with_reducible repeat (first | refine blk_drewN ?_ _ | refine blk_drew ?_ | refine blk_alloc ?_ _)); exact BK474.out)) : gb474 ≠ gb475)); have n11_ := Aside0.mk ((by rw [hg]; exact Nat.ne_of_gt (blk_lt (g := gb474) (o := .cells #[.int .i64 0, .int .i64 0, .slice none 0 0] 24 (0, 0)) (by (with_reducible repeat (first | refine blk_drewN ?_ _ | refine blk_drew ?_ | refine blk_alloc ?_ _)); exact BK474.out)) : gb475 ≠ gb474)); clear HO466; clear HO471; clear BK459; clear BK474; clear HB; have HO466 := n0_; have HO471 := n1_; have BK459 := n2_; have BK474 := n3_; have HB := n4_; have BK475 := n5_; have GW475 := n6_; have GE475 := n7_; have NB459_475 := n8_; have NB475_459 := n9_; have NB474_475 := n10_; have NB475_474 := n11_; clear n0_ n1_ n2_ n3_ n4_ n5_ n6_ n7_ n8_ n9_ n10_ n11_; clear hb hbox hg; have hnb34 := NB474_459.out; have hnc34 := NB459_474.out; have hnb35 := NB474_475.out; have hnc35 := NB475_474.out; have hcz36_0 : w33.cell? ⟨gb474, 0, none⟩ = some (.int .i64 0) := (blk_cell BK474.out 0).trans rfl; have hcz36_1 : w33.cell? ⟨gb474, 1, none⟩ = some (.int .i64 0) := (blk_cell BK474.out 1).trans rfl; have hcz36_2 : w33.cell? ⟨gb474, 2, none⟩ = some (.slice none 0 0) := (blk_cell BK474.out 2).trans rfl; have hfz36_0 := blk_frozen BK474.out 0; have hfz36_1 := blk_frozen BK474.out 1; have hfz36_2 := blk_frozen BK474.out 2; obtain ⟨Ao37, co37, eo37⟩ := Kd.V_slice HO466.out; subst eo37; have hnb38 := NB475_459.out; have hnc38 := NB459_475.out; have hcz39_0 : w33.cell? ⟨gb475, 0, none⟩ = some (.int .i64 0) := (blk_cell BK475.out 0).trans rfl; have hcz39_1 : w33.cell? ⟨gb475, 1, none⟩ = some (.int .i64 0) := (blk_cell BK475.out 1).trans rfl; have hcz39_2 : w33.cell? ⟨gb475, 2, none⟩ = some (.slice none 0 0) := (blk_cell BK475.out 2).trans rfl; have hfz39_0 := blk_frozen BK475.out 0; have hfz39_1 := blk_frozen BK475.out 1; have hfz39_2 := blk_frozen BK475.out 2; obtain ⟨Ao40, co40, eo40⟩ := Kd.V_slice HO471.out; subst eo40; have hcz41_0 : w33.cell? ⟨gb459, 0, none⟩ = some (.int .i64 a0_0) := (blk_cell BK459.out 0).trans rfl; have hcz41_1 : w33.cell? ⟨gb459, 1, none⟩ = some (.int .i64 a0_1) := (blk_cell BK459.out 1).trans rfl; have hcz41_2 : w33.cell? ⟨gb459, 2, none⟩ = some (.slice A0_2 l0_2.length c0_2) := (blk_cell BK459.out 2).trans rfl; have hfz41_0 := blk_frozen BK459.out 0; have hfz41_1 := blk_frozen BK459.out 1; have hfz41_2 := blk_frozen BK459.out 2))
            (try simp only [Act.put, List.setIfInBounds_toArray, List.set_cons_zero, List.set_cons_succ])
            go_cut [88] (fun v88 wc => ∃ (kq : Nat) (x88_28 : Bool), v88 = .bool x88_28 ∧ Aside0 (dasdlaw20_NodeHalves.j1 kq a1 t472 x88_28 a0_0 a0_1 l0_2 t462 t463 t464 t467 t468 t469 = some r) ∧ Aside0 (kq ≤ kj4) ∧ Aside0 (Kd.V k32 32 wc w.heap.size (fun k_ => k_ ≠ gb459 ∧ k_ ≠ gb474 ∧ k_ ≠ gb475) (.slice Ao37 t464.length co37) t464) ∧ Aside0 (Kd.V k32 32 wc w.heap.size (fun k_ => k_ ≠ gb459 ∧ k_ ≠ gb474 ∧ k_ ≠ gb475) (.slice Ao40 t469.length co40) t469) ∧ Aside0 (wc.heap[gb459]? = some (.cells #[.int .i64 a0_0, .int .i64 a0_1, (.slice A0_2 l0_2.length c0_2)] 24 (0, 0))) ∧ Aside0 (wc.heap[gb474]? = some (.cells #[.int .i64 t462, .int .i64 t463, (.slice Ao37 t464.length co37)] 24 (0, 0))) ∧ Aside0 (wc.heap[gb475]? = some (.cells #[.int .i64 t467, .int .i64 t468, (.slice Ao40 t469.length co40)] 24 (0, 0))) ∧ Aside0 (Below w.heap.size w wc))
            case first =>
              have H := HC29.out
              clear HC29
              by_cases c42 : t473 = 0
              · rw [if_pos c42] at H
                have c42b0 : (t473 == 0) = true := beq_iff_eq.mpr c42
                have c42b1 : (t473 != 0) = false := bne_eq_false_iff_eq.mpr c42
                clear c42
                (first | rw [c42b0] | (simp only [i64_w, i32_w]; rw [c42b0]) | skip)
                replace H := Option.bind_eq_some_iff.mp H
                obtain ⟨t476, A430, H⟩ := H
                replace H : (if t476 = true then ((dasdref20_IsNode.f kj4 t467 t468 t469).bind fun t477 => (if t477 = true then (if (wrap64 ((t464.length : Int) + (t469.length : Int))) = (l0_2.length : Int) then (if (wrap64 ((t464.length : Int) - (t469.length : Int))) < 0 then (dasdlaw20_NodeHalves.j1 kj4 a1 t472 true a0_0 a0_1 l0_2 t462 t463 t464 t467 t468 t469) else (if (wrap64 ((t464.length : Int) - (t469.length : Int))) > 1 then (dasdlaw20_NodeHalves.j1 kj4 a1 t472 true a0_0 a0_1 l0_2 t462 t463 t464 t467 t468 t469) else (if t472.toList = ([] : List UInt8) then (dasdlaw20_NodeHalves.j1 kj4 a1 t472 true a0_0 a0_1 l0_2 t462 t463 t464 t467 t468 t469) else (dasdlaw20_NodeHalves.j1 kj4 a1 t472 (t468 != a0_1) a0_0 a0_1 l0_2 t462 t463 t464 t467 t468 t469)))) else (dasdlaw20_NodeHalves.j1 kj4 a1 t472 true a0_0 a0_1 l0_2 t462 t463 t464 t467 t468 t469)) else (dasdlaw20_NodeHalves.j1 kj4 a1 t472 true a0_0 a0_1 l0_2 t462 t463 t464 t467 t468 t469))) else (dasdlaw20_NodeHalves.j1 kj4 a1 t472 true a0_0 a0_1 l0_2 t462 t463 t464 t467 t468 t469)) = some r := H
                have A43 := Aside0.mk A430
                clear A430
                by_cases c44 : t476 = true
                · subst c44
                  have H1 : ((dasdref20_IsNode.f kj4 t467 t468 t469).bind fun t477 => (if t477 = true then (if (wrap64 ((t464.length : Int) + (t469.length : Int))) = (l0_2.length : Int) then (if (wrap64 ((t464.length : Int) - (t469.length : Int))) < 0 then (dasdlaw20_NodeHalves.j1 kj4 a1 t472 true a0_0 a0_1 l0_2 t462 t463 t464 t467 t468 t469) else (if (wrap64 ((t464.length : Int) - (t469.length : Int))) > 1 then (dasdlaw20_NodeHalves.j1 kj4 a1 t472 true a0_0 a0_1 l0_2 t462 t463 t464 t467 t468 t469) else (if t472.toList = ([] : List UInt8) then (dasdlaw20_NodeHalves.j1 kj4 a1 t472 true a0_0 a0_1 l0_2 t462 t463 t464 t467 t468 t469) else (dasdlaw20_NodeHalves.j1 kj4 a1 t472 (t468 != a0_1) a0_0 a0_1 l0_2 t462 t463 t464 t467 t468 t469)))) else (dasdlaw20_NodeHalves.j1 kj4 a1 t472 true a0_0 a0_1 l0_2 t462 t463 t464 t467 t468 t469)) else (dasdlaw20_NodeHalves.j1 kj4 a1 t472 true a0_0 a0_1 l0_2 t462 t463 t464 t467 t468 t469))) = some r := by rw [if_pos rfl] at H; exact H
                  clear H
                  have H := H1
                  clear H1
                  replace H := Option.bind_eq_some_iff.mp H
                  obtain ⟨t477, A450, H⟩ := H
                  replace H : (if t477 = true then (if (wrap64 ((t464.length : Int) + (t469.length : Int))) = (l0_2.length : Int) then (if (wrap64 ((t464.length : Int) - (t469.length : Int))) < 0 then (dasdlaw20_NodeHalves.j1 kj4 a1 t472 true a0_0 a0_1 l0_2 t462 t463 t464 t467 t468 t469) else (if (wrap64 ((t464.length : Int) - (t469.length : Int))) > 1 then (dasdlaw20_NodeHalves.j1 kj4 a1 t472 true a0_0 a0_1 l0_2 t462 t463 t464 t467 t468 t469) else (if t472.toList = ([] : List UInt8) then (dasdlaw20_NodeHalves.j1 kj4 a1 t472 true a0_0 a0_1 l0_2 t462 t463 t464 t467 t468 t469) else (dasdlaw20_NodeHalves.j1 kj4 a1 t472 (t468 != a0_1) a0_0 a0_1 l0_2 t462 t463 t464 t467 t468 t469)))) else (dasdlaw20_NodeHalves.j1 kj4 a1 t472 true a0_0 a0_1 l0_2 t462 t463 t464 t467 t468 t469)) else (dasdlaw20_NodeHalves.j1 kj4 a1 t472 true a0_0 a0_1 l0_2 t462 t463 t464 t467 t468 t469)) = some r := H
                  have A45 := Aside0.mk A450
                  clear A450
                  by_cases c46 : t477 = true
                  · subst c46
                    have H1 : (if (wrap64 ((t464.length : Int) + (t469.length : Int))) = (l0_2.length : Int) then (if (wrap64 ((t464.length : Int) - (t469.length : Int))) < 0 then (dasdlaw20_NodeHalves.j1 kj4 a1 t472 true a0_0 a0_1 l0_2 t462 t463 t464 t467 t468 t469) else (if (wrap64 ((t464.length : Int) - (t469.length : Int))) > 1 then (dasdlaw20_NodeHalves.j1 kj4 a1 t472 true a0_0 a0_1 l0_2 t462 t463 t464 t467 t468 t469) else (if t472.toList = ([] : List UInt8) then (dasdlaw20_NodeHalves.j1 kj4 a1 t472 true a0_0 a0_1 l0_2 t462 t463 t464 t467 t468 t469) else (dasdlaw20_NodeHalves.j1 kj4 a1 t472 (t468 != a0_1) a0_0 a0_1 l0_2 t462 t463 t464 t467 t468 t469)))) else (dasdlaw20_NodeHalves.j1 kj4 a1 t472 true a0_0 a0_1 l0_2 t462 t463 t464 t467 t468 t469)) = some r := by rw [if_pos rfl] at H; exact H
                    clear H
                    have H := H1
                    clear H1
                    by_cases c47 : (wrap64 ((t464.length : Int) + (t469.length : Int))) = (l0_2.length : Int)
                    · rw [if_pos c47] at H
                      have c47b0 : ((wrap64 ((t464.length : Int) + (t469.length : Int))) == (l0_2.length : Int)) = true := beq_iff_eq.mpr c47
                      have c47b1 : ((wrap64 ((t464.length : Int) + (t469.length : Int))) != (l0_2.length : Int)) = false := bne_eq_false_iff_eq.mpr c47
                      clear c47
                      by_cases c48 : (wrap64 ((t464.length : Int) - (t469.length : Int))) < 0
                      · rw [if_pos c48] at H
                        have c48b0 : decide ((wrap64 ((t464.length : Int) - (t469.length : Int))) < 0) = true := decide_eq_true c48
                        clear c48
                        have H' := Aside0.mk H
                        clear H
                        have hnb49 := NB474_459.out
                        have hnc49 := NB459_474.out
                        have hnb50 := NB474_475.out
                        have hnc50 := NB475_474.out
                        have hcz51_0 : w33.cell? ⟨gb474, 0, none⟩ = some (.int .i64 0) := (blk_cell BK474.out 0).trans rfl
                        have hcz51_1 : w33.cell? ⟨gb474, 1, none⟩ = some (.int .i64 0) := (blk_cell BK474.out 1).trans rfl
                        have hcz51_2 : w33.cell? ⟨gb474, 2, none⟩ = some (.slice none 0 0) := (blk_cell BK474.out 2).trans rfl
                        have hfz51_0 := blk_frozen BK474.out 0
                        have hfz51_1 := blk_frozen BK474.out 1
                        have hfz51_2 := blk_frozen BK474.out 2
                        go_wp2_with (first | (go_at_call 11; (with_reducible refine (dasdref20_IsNode.calls kj4 t462 t463 _ _ t464 true _ ?side1 ?side2 A43.out).mono ?_); (case side1 => refine (Kd.V_reads' (e := 32) (base := w.heap.size) (ok := fun k_ => ((k_ ≠ gb459 ∧ k_ ≠ gb474) ∧ k_ ≠ gb475)) (n := t464.length) (c := co37) ?_).2.2; exact (by (with_reducible repeat (first | apply Kd.V_alloc | apply Kd.V_drewN | apply Kd.V_drew)); exact (Kd.V_mono (Kd.V_mono (Kd.V_far (p := ⟨gb475, 2, none⟩) (Kd.V_far (p := ⟨gb475, 1, none⟩) (Kd.V_far (p := ⟨gb475, 0, none⟩) (Kd.V_far (p := ⟨gb474, 2, none⟩) (Kd.V_far (p := ⟨gb474, 1, none⟩) (Kd.V_far (p := ⟨gb474, 0, none⟩) (Kd.V_mono (Kd.V_mono HO466.out (fun k_ hk => (⟨hk, hk.1.2⟩ : _ ∧ k_ ≠ gb474))) (fun k_ hk => (⟨hk, hk.1.2⟩ : _ ∧ k_ ≠ gb475))) (fun _ hk => hk.1.2) (.int .i64 t462)) (fun _ hk => hk.1.2) (.int .i64 t463)) (fun _ hk => hk.1.2) (.slice Ao37 t464.length co37)) (fun _ hk => hk.2) (.int .i64 t467)) (fun _ hk => hk.2) (.int .i64 t468)) (fun _ hk => hk.2) (.slice Ao40 t469.length co40)) (fun _ h_ => h_.1)) (fun _ h_ => h_.1)))); (case side2 => exact (Kd.V_reads' HO466.out).2.1); rintro e w52 ⟨rfl, hb⟩; have n0_ := Aside0.mk (Kd.V_below (by (with_reducible repeat (first | apply Kd.V_alloc | apply Kd.V_drewN | apply Kd.V_drew)); exact (Kd.V_mono (Kd.V_mono (Kd.V_far (p := ⟨gb475, 2, none⟩) (Kd.V_far (p := ⟨gb475, 1, none⟩) (Kd.V_far (p := ⟨gb475, 0, none⟩) (Kd.V_far (p := ⟨gb474, 2, none⟩) (Kd.V_far (p := ⟨gb474, 1, none⟩) (Kd.V_far (p := ⟨gb474, 0, none⟩) (Kd.V_mono (Kd.V_mono HO466.out (fun k_ hk => (⟨hk, hk.1.2⟩ : _ ∧ k_ ≠ gb474))) (fun k_ hk => (⟨hk, hk.1.2⟩ : _ ∧ k_ ≠ gb475))) (fun _ hk => hk.1.2) (.int .i64 t462)) (fun _ hk => hk.1.2) (.int .i64 t463)) (fun _ hk => hk.1.2) (.slice Ao37 t464.length co37)) (fun _ hk => hk.2) (.int .i64 t467)) (fun _ hk => hk.2) (.int .i64 t468)) (fun _ hk => hk.2) (.slice Ao40 t469.length co40)) (fun _ h_ => h_.1)) (fun _ h_ => h_.1))) hb); have n1_ := Aside0.mk (Kd.V_below (by (with_reducible repeat (first | apply Kd.V_alloc | apply Kd.V_drewN | apply Kd.V_drew)); exact (Kd.V_mono (Kd.V_mono (Kd.V_far (p := ⟨gb475, 2, none⟩) (Kd.V_far (p := ⟨gb475, 1, none⟩) (Kd.V_far (p := ⟨gb475, 0, none⟩) (Kd.V_far (p := ⟨gb474, 2, none⟩) (Kd.V_far (p := ⟨gb474, 1, none⟩) (Kd.V_far (p := ⟨gb474, 0, none⟩) (Kd.V_mono (Kd.V_mono HO471.out (fun k_ hk => (⟨hk, hk.1.2⟩ : _ ∧ k_ ≠ gb474))) (fun k_ hk => (⟨hk, hk.1.2⟩ : _ ∧ k_ ≠ gb475))) (fun _ hk => hk.1.2) (.int .i64 t462)) (fun _ hk => hk.1.2) (.int .i64 t463)) (fun _ hk => hk.1.2) (.slice Ao37 t464.length co37)) (fun _ hk => hk.2) (.int .i64 t467)) (fun _ hk => hk.2) (.int .i64 t468)) (fun _ hk => hk.2) (.slice Ao40 t469.length co40)) (fun _ h_ => h_.1)) (fun _ h_ => h_.1))) hb); have n2_ := Aside0.mk (blk_below (g := gb459) (o := .cells #[.int .i64 a0_0, .int .i64 a0_1, .slice A0_2 l0_2.length c0_2] 24 (0, 0)) (by (with_reducible repeat (first | refine blk_drewN ?_ _ | refine blk_drew ?_ | refine blk_alloc ?_ _)); refine blk_far ?_ NB459_475.out _; (with_reducible repeat (first | refine blk_drewN ?_ _ | refine blk_drew ?_ | refine blk_alloc ?_ _)); refine blk_far ?_ NB459_475.out _; (with_reducible repeat (first | refine blk_drewN ?_ _ | refine blk_drew ?_ | refine blk_alloc ?_ _)); refine blk_far ?_ NB459_475.out _; (with_reducible repeat (first | refine blk_drewN ?_ _ | refine blk_drew ?_ | refine blk_alloc ?_ _)); refine blk_far ?_ NB459_474.out _; (with_reducible repeat (first | refine blk_drewN ?_ _ | refine blk_drew ?_ | refine blk_alloc ?_ _)); refine blk_far ?_ NB459_474.out _; (with_reducible repeat (first | refine blk_drewN ?_ _ | refine blk_drew ?_ | refine blk_alloc ?_ _)); refine blk_far ?_ NB459_474.out _; (with_reducible repeat (first | refine blk_drewN ?_ _ | refine blk_drew ?_ | refine blk_alloc ?_ _)); exact BK459.out) hb); have n3_ := Aside0.mk (blk_below (g := gb474) (o := .cells #[.int .i64 t462, .int .i64 t463, .slice Ao37 t464.length co37] 24 (0, 0)) (by (with_reducible repeat (first | refine blk_drewN ?_ _ | refine blk_drew ?_ | refine blk_alloc ?_ _)); refine blk_far ?_ NB474_475.out _; (with_reducible repeat (first | refine blk_drewN ?_ _ | refine blk_drew ?_ | refine blk_alloc ?_ _)); refine blk_far ?_ NB474_475.out _; (with_reducible repeat (first | refine blk_drewN ?_ _ | refine blk_drew ?_ | refine blk_alloc ?_ _)); refine blk_far ?_ NB474_475.out _; (with_reducible repeat (first | refine blk_drewN ?_ _ | refine blk_drew ?_ | refine blk_alloc ?_ _)); refine blk_put (cs := #[.int .i64 t462, .int .i64 t463, .slice none 0 0]) ?_ 2 _ rfl; (with_reducible repeat (first | refine blk_drewN ?_ _ | refine blk_drew ?_ | refine blk_alloc ?_ _)); refine blk_put (cs := #[.int .i64 t462, .int .i64 0, .slice none 0 0]) ?_ 1 _ rfl; (with_reducible repeat (first | refine blk_drewN ?_ _ | refine blk_drew ?_ | refine blk_alloc ?_ _)); refine blk_put (cs := #[.int .i64 0, .int .i64 0, .slice none 0 0]) ?_ 0 _ rfl; (with_reducible repeat (first | refine blk_drewN ?_ _ | refine blk_drew ?_ | refine blk_alloc ?_ _)); exact BK474.out) hb); have n4_ := Aside0.mk (blk_below (g := gb475) (o := .cells #[.int .i64 t467, .int .i64 t468, .slice Ao40 t469.length co40] 24 (0, 0)) (by (with_reducible repeat (first | refine blk_drewN ?_ _ | refine blk_drew ?_ | refine blk_alloc ?_ _)); refine blk_put (cs := #[.int .i64 t467, .int .i64 t468, .slice none 0 0]) ?_ 2 _ rfl; (with_reducible repeat (first | refine blk_drewN ?_ _ | refine blk_drew ?_ | refine blk_alloc ?_ _)); refine blk_put (cs := #[.int .i64 t467, .int .i64 0, .slice none 0 0]) ?_ 1 _ rfl; (with_reducible repeat (first | refine blk_drewN ?_ _ | refine blk_drew ?_ | refine blk_alloc ?_ _)); refine blk_put (cs := #[.int .i64 0, .int .i64 0, .slice none 0 0]) ?_ 0 _ rfl; (with_reducible repeat (first | refine blk_drewN ?_ _ | refine blk_drew ?_ | refine blk_alloc ?_ _)); refine blk_far ?_ NB475_474.out _; (with_reducible repeat (first | refine blk_drewN ?_ _ | refine blk_drew ?_ | refine blk_alloc ?_ _)); refine blk_far ?_ NB475_474.out _; (with_reducible repeat (first | refine blk_drewN ?_ _ | refine blk_drew ?_ | refine blk_alloc ?_ _)); refine blk_far ?_ NB475_474.out _; (with_reducible repeat (first | refine blk_drewN ?_ _ | refine blk_drew ?_ | refine blk_alloc ?_ _)); exact BK475.out) hb); have n5_ := Aside0.mk (below_step (by repeat (first | (with_reducible first | exact HB.out | apply below_alloc | apply pw_below_drewN | apply below_drew1 | refine below_set ?_ GE459.out | refine below_set ?_ GE474.out | refine below_set ?_ GE475.out) | exact HB.out)) hb); clear HO466; clear HO471; clear BK459; clear BK474; clear BK475; clear HB; have HO466 := n0_; have HO471 := n1_; have BK459 := n2_; have BK474 := n3_; have BK475 := n4_; have HB := n5_; clear n0_ n1_ n2_ n3_ n4_ n5_; (try clear hb); (try clear hb2); (try clear hk); (try clear hi); have hnb53 := NB475_459.out; have hnc53 := NB459_475.out; have hcz54_0 : w52.cell? ⟨gb475, 0, none⟩ = some (.int .i64 t467) := (blk_cell BK475.out 0).trans rfl; have hcz54_1 : w52.cell? ⟨gb475, 1, none⟩ = some (.int .i64 t468) := (blk_cell BK475.out 1).trans rfl; have hcz54_2 : w52.cell? ⟨gb475, 2, none⟩ = some (.slice Ao40 t469.length co40) := (blk_cell BK475.out 2).trans rfl; have hfz54_0 := blk_frozen BK475.out 0; have hfz54_1 := blk_frozen BK475.out 1; have hfz54_2 := blk_frozen BK475.out 2) | (go_at_call 11; (with_reducible refine (dasdref20_IsNode.calls kj4 t467 t468 _ _ t469 true _ ?side1 ?side2 A45.out).mono ?_); (case side1 => repeat (first | exact (Kd.V_reads' HO471.out).2.2 | (with_reducible refine Kd.C_alloc ?_ _) | (with_reducible refine Kd.C_drewN ?_ _) | (with_reducible refine Kd.C_drew ?_))); (case side2 => exact (Kd.V_reads' HO471.out).2.1); rintro e w55 ⟨rfl, hb⟩; have n0_ := Aside0.mk (Kd.V_below (by (with_reducible repeat (first | apply Kd.V_alloc | apply Kd.V_drewN | apply Kd.V_drew)); exact HO466.out) hb); have n1_ := Aside0.mk (Kd.V_below (by (with_reducible repeat (first | apply Kd.V_alloc | apply Kd.V_drewN | apply Kd.V_drew)); exact HO471.out) hb); have n2_ := Aside0.mk (blk_below (g := gb459) (o := .cells #[.int .i64 a0_0, .int .i64 a0_1, .slice A0_2 l0_2.length c0_2] 24 (0, 0)) (by (with_reducible repeat (first | refine blk_drewN ?_ _ | refine blk_drew ?_ | refine blk_alloc ?_ _)); exact BK459.out) hb); have n3_ := Aside0.mk (blk_below (g := gb474) (o := .cells #[.int .i64 t462, .int .i64 t463, .slice Ao37 t464.length co37] 24 (0, 0)) (by (with_reducible repeat (first | refine blk_drewN ?_ _ | refine blk_drew ?_ | refine blk_alloc ?_ _)); exact BK474.out) hb); have n4_ := Aside0.mk (blk_below (g := gb475) (o := .cells #[.int .i64 t467, .int .i64 t468, .slice Ao40 t469.length co40] 24 (0, 0)) (by (with_reducible repeat (first | refine blk_drewN ?_ _ | refine blk_drew ?_ | refine blk_alloc ?_ _)); exact BK475.out) hb); have n5_ := Aside0.mk (below_step (by repeat (first | (with_reducible first | exact HB.out | apply below_alloc | apply pw_below_drewN | apply below_drew1 | refine below_set ?_ GE459.out | refine below_set ?_ GE474.out | refine below_set ?_ GE475.out) | exact HB.out)) hb); clear HO466; clear HO471; clear BK459; clear BK474; clear BK475; clear HB; have HO466 := n0_; have HO471 := n1_; have BK459 := n2_; have BK474 := n3_; have BK475 := n4_; have HB := n5_; clear n0_ n1_ n2_ n3_ n4_ n5_; (try clear hb); (try clear hb2); (try clear hk); (try clear hi); have hcz56_0 : w55.cell? ⟨gb474, 0, none⟩ = some (.int .i64 t462) := (blk_cell BK474.out 0).trans rfl; have hcz56_1 : w55.cell? ⟨gb474, 1, none⟩ = some (.int .i64 t463) := (blk_cell BK474.out 1).trans rfl; have hcz56_2 : w55.cell? ⟨gb474, 2, none⟩ = some (.slice Ao37 t464.length co37) := (blk_cell BK474.out 2).trans rfl; have hfz56_0 := blk_frozen BK474.out 0; have hfz56_1 := blk_frozen BK474.out 1; have hfz56_2 := blk_frozen BK474.out 2; have hcz57_0 : w55.cell? ⟨gb475, 0, none⟩ = some (.int .i64 t467) := (blk_cell BK475.out 0).trans rfl; have hcz57_1 : w55.cell? ⟨gb475, 1, none⟩ = some (.int .i64 t468) := (blk_cell BK475.out 1).trans rfl; have hcz57_2 : w55.cell? ⟨gb475, 2, none⟩ = some (.slice Ao40 t469.length co40) := (blk_cell BK475.out 2).trans rfl; have hfz57_0 := blk_frozen BK475.out 0; have hfz57_1 := blk_frozen BK475.out 1; have hfz57_2 := blk_frozen BK475.out 2; have hcz58_0 : w55.cell? ⟨gb459, 0, none⟩ = some (.int .i64 a0_0) := (blk_cell BK459.out 0).trans rfl; have hcz58_1 : w55.cell? ⟨gb459, 1, none⟩ = some (.int .i64 a0_1) := (blk_cell BK459.out 1).trans rfl; have hcz58_2 : w55.cell? ⟨gb459, 2, none⟩ = some (.slice A0_2 l0_2.length c0_2) := (blk_cell BK459.out 2).trans rfl; have hfz58_0 := blk_frozen BK459.out 0; have hfz58_1 := blk_frozen BK459.out 1; have hfz58_2 := blk_frozen BK459.out 2))
                        go_meet
                        case rel => exact ⟨_, (true), (by first | rfl | (simp; done) | (simp [*]; done)), H', ⟨by have := HJ4.out; first | omega | exact Nat.le_refl _⟩, ⟨by (with_reducible repeat (first | apply Kd.V_alloc | apply Kd.V_drewN | apply Kd.V_drew)); exact Kd.V_mono HO466.out (fun _ hk => ⟨hk.1.1, ⟨hk.1.2, hk.2⟩⟩)⟩, ⟨by (with_reducible repeat (first | apply Kd.V_alloc | apply Kd.V_drewN | apply Kd.V_drew)); exact Kd.V_mono HO471.out (fun _ hk => ⟨hk.1.1, ⟨hk.1.2, hk.2⟩⟩)⟩, ⟨by (with_reducible repeat (first | refine blk_drewN ?_ _ | refine blk_drew ?_ | refine blk_alloc ?_ _)); exact BK459.out⟩, ⟨by (with_reducible repeat (first | refine blk_drewN ?_ _ | refine blk_drew ?_ | refine blk_alloc ?_ _)); exact BK474.out⟩, ⟨by (with_reducible repeat (first | refine blk_drewN ?_ _ | refine blk_drew ?_ | refine blk_alloc ?_ _)); exact BK475.out⟩, ⟨by repeat (first | (with_reducible first | exact HB.out | apply below_alloc | apply pw_below_drewN | apply below_drew1 | refine below_set ?_ GE459.out | refine below_set ?_ GE474.out | refine below_set ?_ GE475.out) | exact HB.out)⟩⟩
                      · rw [if_neg c48] at H
                        have c48b0 : decide ((wrap64 ((t464.length : Int) - (t469.length : Int))) < 0) = false := decide_eq_false c48
                        clear c48
                        by_cases c59 : (wrap64 ((t464.length : Int) - (t469.length : Int))) > 1
                        · rw [if_pos c59] at H
                          have c59b0 : decide (1 < (wrap64 ((t464.length : Int) - (t469.length : Int)))) = true := decide_eq_true c59
                          clear c59
                          have H' := Aside0.mk H
                          clear H
                          have hnb60 := NB474_459.out
                          have hnc60 := NB459_474.out
                          have hnb61 := NB474_475.out
                          have hnc61 := NB475_474.out
                          have hcz62_0 : w33.cell? ⟨gb474, 0, none⟩ = some (.int .i64 0) := (blk_cell BK474.out 0).trans rfl
                          have hcz62_1 : w33.cell? ⟨gb474, 1, none⟩ = some (.int .i64 0) := (blk_cell BK474.out 1).trans rfl
                          have hcz62_2 : w33.cell? ⟨gb474, 2, none⟩ = some (.slice none 0 0) := (blk_cell BK474.out 2).trans rfl
                          have hfz62_0 := blk_frozen BK474.out 0
                          have hfz62_1 := blk_frozen BK474.out 1
                          have hfz62_2 := blk_frozen BK474.out 2
                          go_wp2_with (first | (go_at_call 11; (with_reducible refine (dasdref20_IsNode.calls kj4 t462 t463 _ _ t464 true _ ?side1 ?side2 A43.out).mono ?_); (case side1 => refine (Kd.V_reads' (e := 32) (base := w.heap.size) (ok := fun k_ => ((k_ ≠ gb459 ∧ k_ ≠ gb474) ∧ k_ ≠ gb475)) (n := t464.length) (c := co37) ?_).2.2; exact (by (with_reducible repeat (first | apply Kd.V_alloc | apply Kd.V_drewN | apply Kd.V_drew)); exact (Kd.V_mono (Kd.V_mono (Kd.V_far (p := ⟨gb475, 2, none⟩) (Kd.V_far (p := ⟨gb475, 1, none⟩) (Kd.V_far (p := ⟨gb475, 0, none⟩) (Kd.V_far (p := ⟨gb474, 2, none⟩) (Kd.V_far (p := ⟨gb474, 1, none⟩) (Kd.V_far (p := ⟨gb474, 0, none⟩) (Kd.V_mono (Kd.V_mono HO466.out (fun k_ hk => (⟨hk, hk.1.2⟩ : _ ∧ k_ ≠ gb474))) (fun k_ hk => (⟨hk, hk.1.2⟩ : _ ∧ k_ ≠ gb475))) (fun _ hk => hk.1.2) (.int .i64 t462)) (fun _ hk => hk.1.2) (.int .i64 t463)) (fun _ hk => hk.1.2) (.slice Ao37 t464.length co37)) (fun _ hk => hk.2) (.int .i64 t467)) (fun _ hk => hk.2) (.int .i64 t468)) (fun _ hk => hk.2) (.slice Ao40 t469.length co40)) (fun _ h_ => h_.1)) (fun _ h_ => h_.1)))); (case side2 => exact (Kd.V_reads' HO466.out).2.1); rintro e w63 ⟨rfl, hb⟩; have n0_ := Aside0.mk (Kd.V_below (by (with_reducible repeat (first | apply Kd.V_alloc | apply Kd.V_drewN | apply Kd.V_drew)); exact (Kd.V_mono (Kd.V_mono (Kd.V_far (p := ⟨gb475, 2, none⟩) (Kd.V_far (p := ⟨gb475, 1, none⟩) (Kd.V_far (p := ⟨gb475, 0, none⟩) (Kd.V_far (p := ⟨gb474, 2, none⟩) (Kd.V_far (p := ⟨gb474, 1, none⟩) (Kd.V_far (p := ⟨gb474, 0, none⟩) (Kd.V_mono (Kd.V_mono HO466.out (fun k_ hk => (⟨hk, hk.1.2⟩ : _ ∧ k_ ≠ gb474))) (fun k_ hk => (⟨hk, hk.1.2⟩ : _ ∧ k_ ≠ gb475))) (fun _ hk => hk.1.2) (.int .i64 t462)) (fun _ hk => hk.1.2) (.int .i64 t463)) (fun _ hk => hk.1.2) (.slice Ao37 t464.length co37)) (fun _ hk => hk.2) (.int .i64 t467)) (fun _ hk => hk.2) (.int .i64 t468)) (fun _ hk => hk.2) (.slice Ao40 t469.length co40)) (fun _ h_ => h_.1)) (fun _ h_ => h_.1))) hb); have n1_ := Aside0.mk (Kd.V_below (by (with_reducible repeat (first | apply Kd.V_alloc | apply Kd.V_drewN | apply Kd.V_drew)); exact (Kd.V_mono (Kd.V_mono (Kd.V_far (p := ⟨gb475, 2, none⟩) (Kd.V_far (p := ⟨gb475, 1, none⟩) (Kd.V_far (p := ⟨gb475, 0, none⟩) (Kd.V_far (p := ⟨gb474, 2, none⟩) (Kd.V_far (p := ⟨gb474, 1, none⟩) (Kd.V_far (p := ⟨gb474, 0, none⟩) (Kd.V_mono (Kd.V_mono HO471.out (fun k_ hk => (⟨hk, hk.1.2⟩ : _ ∧ k_ ≠ gb474))) (fun k_ hk => (⟨hk, hk.1.2⟩ : _ ∧ k_ ≠ gb475))) (fun _ hk => hk.1.2) (.int .i64 t462)) (fun _ hk => hk.1.2) (.int .i64 t463)) (fun _ hk => hk.1.2) (.slice Ao37 t464.length co37)) (fun _ hk => hk.2) (.int .i64 t467)) (fun _ hk => hk.2) (.int .i64 t468)) (fun _ hk => hk.2) (.slice Ao40 t469.length co40)) (fun _ h_ => h_.1)) (fun _ h_ => h_.1))) hb); have n2_ := Aside0.mk (blk_below (g := gb459) (o := .cells #[.int .i64 a0_0, .int .i64 a0_1, .slice A0_2 l0_2.length c0_2] 24 (0, 0)) (by (with_reducible repeat (first | refine blk_drewN ?_ _ | refine blk_drew ?_ | refine blk_alloc ?_ _)); refine blk_far ?_ NB459_475.out _; (with_reducible repeat (first | refine blk_drewN ?_ _ | refine blk_drew ?_ | refine blk_alloc ?_ _)); refine blk_far ?_ NB459_475.out _; (with_reducible repeat (first | refine blk_drewN ?_ _ | refine blk_drew ?_ | refine blk_alloc ?_ _)); refine blk_far ?_ NB459_475.out _; (with_reducible repeat (first | refine blk_drewN ?_ _ | refine blk_drew ?_ | refine blk_alloc ?_ _)); refine blk_far ?_ NB459_474.out _; (with_reducible repeat (first | refine blk_drewN ?_ _ | refine blk_drew ?_ | refine blk_alloc ?_ _)); refine blk_far ?_ NB459_474.out _; (with_reducible repeat (first | refine blk_drewN ?_ _ | refine blk_drew ?_ | refine blk_alloc ?_ _)); refine blk_far ?_ NB459_474.out _; (with_reducible repeat (first | refine blk_drewN ?_ _ | refine blk_drew ?_ | refine blk_alloc ?_ _)); exact BK459.out) hb); have n3_ := Aside0.mk (blk_below (g := gb474) (o := .cells #[.int .i64 t462, .int .i64 t463, .slice Ao37 t464.length co37] 24 (0, 0)) (by (with_reducible repeat (first | refine blk_drewN ?_ _ | refine blk_drew ?_ | refine blk_alloc ?_ _)); refine blk_far ?_ NB474_475.out _; (with_reducible repeat (first | refine blk_drewN ?_ _ | refine blk_drew ?_ | refine blk_alloc ?_ _)); refine blk_far ?_ NB474_475.out _; (with_reducible repeat (first | refine blk_drewN ?_ _ | refine blk_drew ?_ | refine blk_alloc ?_ _)); refine blk_far ?_ NB474_475.out _; (with_reducible repeat (first | refine blk_drewN ?_ _ | refine blk_drew ?_ | refine blk_alloc ?_ _)); refine blk_put (cs := #[.int .i64 t462, .int .i64 t463, .slice none 0 0]) ?_ 2 _ rfl; (with_reducible repeat (first | refine blk_drewN ?_ _ | refine blk_drew ?_ | refine blk_alloc ?_ _)); refine blk_put (cs := #[.int .i64 t462, .int .i64 0, .slice none 0 0]) ?_ 1 _ rfl; (with_reducible repeat (first | refine blk_drewN ?_ _ | refine blk_drew ?_ | refine blk_alloc ?_ _)); refine blk_put (cs := #[.int .i64 0, .int .i64 0, .slice none 0 0]) ?_ 0 _ rfl; (with_reducible repeat (first | refine blk_drewN ?_ _ | refine blk_drew ?_ | refine blk_alloc ?_ _)); exact BK474.out) hb); have n4_ := Aside0.mk (blk_below (g := gb475) (o := .cells #[.int .i64 t467, .int .i64 t468, .slice Ao40 t469.length co40] 24 (0, 0)) (by (with_reducible repeat (first | refine blk_drewN ?_ _ | refine blk_drew ?_ | refine blk_alloc ?_ _)); refine blk_put (cs := #[.int .i64 t467, .int .i64 t468, .slice none 0 0]) ?_ 2 _ rfl; (with_reducible repeat (first | refine blk_drewN ?_ _ | refine blk_drew ?_ | refine blk_alloc ?_ _)); refine blk_put (cs := #[.int .i64 t467, .int .i64 0, .slice none 0 0]) ?_ 1 _ rfl; (with_reducible repeat (first | refine blk_drewN ?_ _ | refine blk_drew ?_ | refine blk_alloc ?_ _)); refine blk_put (cs := #[.int .i64 0, .int .i64 0, .slice none 0 0]) ?_ 0 _ rfl; (with_reducible repeat (first | refine blk_drewN ?_ _ | refine blk_drew ?_ | refine blk_alloc ?_ _)); refine blk_far ?_ NB475_474.out _; (with_reducible repeat (first | refine blk_drewN ?_ _ | refine blk_drew ?_ | refine blk_alloc ?_ _)); refine blk_far ?_ NB475_474.out _; (with_reducible repeat (first | refine blk_drewN ?_ _ | refine blk_drew ?_ | refine blk_alloc ?_ _)); refine blk_far ?_ NB475_474.out _; (with_reducible repeat (first | refine blk_drewN ?_ _ | refine blk_drew ?_ | refine blk_alloc ?_ _)); exact BK475.out) hb); have n5_ := Aside0.mk (below_step (by repeat (first | (with_reducible first | exact HB.out | apply below_alloc | apply pw_below_drewN | apply below_drew1 | refine below_set ?_ GE459.out | refine below_set ?_ GE474.out | refine below_set ?_ GE475.out) | exact HB.out)) hb); clear HO466; clear HO471; clear BK459; clear BK474; clear BK475; clear HB; have HO466 := n0_; have HO471 := n1_; have BK459 := n2_; have BK474 := n3_; have BK475 := n4_; have HB := n5_; clear n0_ n1_ n2_ n3_ n4_ n5_; (try clear hb); (try clear hb2); (try clear hk); (try clear hi); have hnb64 := NB475_459.out; have hnc64 := NB459_475.out; have hcz65_0 : w63.cell? ⟨gb475, 0, none⟩ = some (.int .i64 t467) := (blk_cell BK475.out 0).trans rfl; have hcz65_1 : w63.cell? ⟨gb475, 1, none⟩ = some (.int .i64 t468) := (blk_cell BK475.out 1).trans rfl; have hcz65_2 : w63.cell? ⟨gb475, 2, none⟩ = some (.slice Ao40 t469.length co40) := (blk_cell BK475.out 2).trans rfl; have hfz65_0 := blk_frozen BK475.out 0; have hfz65_1 := blk_frozen BK475.out 1; have hfz65_2 := blk_frozen BK475.out 2) | (go_at_call 11; (with_reducible refine (dasdref20_IsNode.calls kj4 t467 t468 _ _ t469 true _ ?side1 ?side2 A45.out).mono ?_); (case side1 => repeat (first | exact (Kd.V_reads' HO471.out).2.2 | (with_reducible refine Kd.C_alloc ?_ _) | (with_reducible refine Kd.C_drewN ?_ _) | (with_reducible refine Kd.C_drew ?_))); (case side2 => exact (Kd.V_reads' HO471.out).2.1); rintro e w66 ⟨rfl, hb⟩; have n0_ := Aside0.mk (Kd.V_below (by (with_reducible repeat (first | apply Kd.V_alloc | apply Kd.V_drewN | apply Kd.V_drew)); exact HO466.out) hb); have n1_ := Aside0.mk (Kd.V_below (by (with_reducible repeat (first | apply Kd.V_alloc | apply Kd.V_drewN | apply Kd.V_drew)); exact HO471.out) hb); have n2_ := Aside0.mk (blk_below (g := gb459) (o := .cells #[.int .i64 a0_0, .int .i64 a0_1, .slice A0_2 l0_2.length c0_2] 24 (0, 0)) (by (with_reducible repeat (first | refine blk_drewN ?_ _ | refine blk_drew ?_ | refine blk_alloc ?_ _)); exact BK459.out) hb); have n3_ := Aside0.mk (blk_below (g := gb474) (o := .cells #[.int .i64 t462, .int .i64 t463, .slice Ao37 t464.length co37] 24 (0, 0)) (by (with_reducible repeat (first | refine blk_drewN ?_ _ | refine blk_drew ?_ | refine blk_alloc ?_ _)); exact BK474.out) hb); have n4_ := Aside0.mk (blk_below (g := gb475) (o := .cells #[.int .i64 t467, .int .i64 t468, .slice Ao40 t469.length co40] 24 (0, 0)) (by (with_reducible repeat (first | refine blk_drewN ?_ _ | refine blk_drew ?_ | refine blk_alloc ?_ _)); exact BK475.out) hb); have n5_ := Aside0.mk (below_step (by repeat (first | (with_reducible first | exact HB.out | apply below_alloc | apply pw_below_drewN | apply below_drew1 | refine below_set ?_ GE459.out | refine below_set ?_ GE474.out | refine below_set ?_ GE475.out) | exact HB.out)) hb); clear HO466; clear HO471; clear BK459; clear BK474; clear BK475; clear HB; have HO466 := n0_; have HO471 := n1_; have BK459 := n2_; have BK474 := n3_; have BK475 := n4_; have HB := n5_; clear n0_ n1_ n2_ n3_ n4_ n5_; (try clear hb); (try clear hb2); (try clear hk); (try clear hi); have hcz67_0 : w66.cell? ⟨gb474, 0, none⟩ = some (.int .i64 t462) := (blk_cell BK474.out 0).trans rfl; have hcz67_1 : w66.cell? ⟨gb474, 1, none⟩ = some (.int .i64 t463) := (blk_cell BK474.out 1).trans rfl; have hcz67_2 : w66.cell? ⟨gb474, 2, none⟩ = some (.slice Ao37 t464.length co37) := (blk_cell BK474.out 2).trans rfl; have hfz67_0 := blk_frozen BK474.out 0; have hfz67_1 := blk_frozen BK474.out 1; have hfz67_2 := blk_frozen BK474.out 2; have hcz68_0 : w66.cell? ⟨gb475, 0, none⟩ = some (.int .i64 t467) := (blk_cell BK475.out 0).trans rfl; have hcz68_1 : w66.cell? ⟨gb475, 1, none⟩ = some (.int .i64 t468) := (blk_cell BK475.out 1).trans rfl; have hcz68_2 : w66.cell? ⟨gb475, 2, none⟩ = some (.slice Ao40 t469.length co40) := (blk_cell BK475.out 2).trans rfl; have hfz68_0 := blk_frozen BK475.out 0; have hfz68_1 := blk_frozen BK475.out 1; have hfz68_2 := blk_frozen BK475.out 2; have hcz69_0 : w66.cell? ⟨gb459, 0, none⟩ = some (.int .i64 a0_0) := (blk_cell BK459.out 0).trans rfl; have hcz69_1 : w66.cell? ⟨gb459, 1, none⟩ = some (.int .i64 a0_1) := (blk_cell BK459.out 1).trans rfl; have hcz69_2 : w66.cell? ⟨gb459, 2, none⟩ = some (.slice A0_2 l0_2.length c0_2) := (blk_cell BK459.out 2).trans rfl; have hfz69_0 := blk_frozen BK459.out 0; have hfz69_1 := blk_frozen BK459.out 1; have hfz69_2 := blk_frozen BK459.out 2))
                          go_meet
                          case rel => exact ⟨_, (true), (by first | rfl | (simp; done) | (simp [*]; done)), H', ⟨by have := HJ4.out; first | omega | exact Nat.le_refl _⟩, ⟨by (with_reducible repeat (first | apply Kd.V_alloc | apply Kd.V_drewN | apply Kd.V_drew)); exact Kd.V_mono HO466.out (fun _ hk => ⟨hk.1.1, ⟨hk.1.2, hk.2⟩⟩)⟩, ⟨by (with_reducible repeat (first | apply Kd.V_alloc | apply Kd.V_drewN | apply Kd.V_drew)); exact Kd.V_mono HO471.out (fun _ hk => ⟨hk.1.1, ⟨hk.1.2, hk.2⟩⟩)⟩, ⟨by (with_reducible repeat (first | refine blk_drewN ?_ _ | refine blk_drew ?_ | refine blk_alloc ?_ _)); exact BK459.out⟩, ⟨by (with_reducible repeat (first | refine blk_drewN ?_ _ | refine blk_drew ?_ | refine blk_alloc ?_ _)); exact BK474.out⟩, ⟨by (with_reducible repeat (first | refine blk_drewN ?_ _ | refine blk_drew ?_ | refine blk_alloc ?_ _)); exact BK475.out⟩, ⟨by repeat (first | (with_reducible first | exact HB.out | apply below_alloc | apply pw_below_drewN | apply below_drew1 | refine below_set ?_ GE459.out | refine below_set ?_ GE474.out | refine below_set ?_ GE475.out) | exact HB.out)⟩⟩
                        · rw [if_neg c59] at H
                          have c59b0 : decide (1 < (wrap64 ((t464.length : Int) - (t469.length : Int)))) = false := decide_eq_false c59
                          clear c59
                          by_cases c70 : t472.toList = ([] : List UInt8)
                          · rw [if_pos c70] at H
                            have c70b0 : (t472.toList == ([] : List UInt8)) = true := beq_iff_eq.mpr c70
                            have c70b1 : (t472.toList != ([] : List UInt8)) = false := bne_eq_false_iff_eq.mpr c70
                            clear c70
                            have H' := Aside0.mk H
                            clear H
                            have hnb71 := NB474_459.out
                            have hnc71 := NB459_474.out
                            have hnb72 := NB474_475.out
                            have hnc72 := NB475_474.out
                            have hcz73_0 : w33.cell? ⟨gb474, 0, none⟩ = some (.int .i64 0) := (blk_cell BK474.out 0).trans rfl
                            have hcz73_1 : w33.cell? ⟨gb474, 1, none⟩ = some (.int .i64 0) := (blk_cell BK474.out 1).trans rfl
                            have hcz73_2 : w33.cell? ⟨gb474, 2, none⟩ = some (.slice none 0 0) := (blk_cell BK474.out 2).trans rfl
                            have hfz73_0 := blk_frozen BK474.out 0
                            have hfz73_1 := blk_frozen BK474.out 1
                            have hfz73_2 := blk_frozen BK474.out 2
                            go_wp2_with (first | (go_at_call 11; (with_reducible refine (dasdref20_IsNode.calls kj4 t462 t463 _ _ t464 true _ ?side1 ?side2 A43.out).mono ?_); (case side1 => refine (Kd.V_reads' (e := 32) (base := w.heap.size) (ok := fun k_ => ((k_ ≠ gb459 ∧ k_ ≠ gb474) ∧ k_ ≠ gb475)) (n := t464.length) (c := co37) ?_).2.2; exact (by (with_reducible repeat (first | apply Kd.V_alloc | apply Kd.V_drewN | apply Kd.V_drew)); exact (Kd.V_mono (Kd.V_mono (Kd.V_far (p := ⟨gb475, 2, none⟩) (Kd.V_far (p := ⟨gb475, 1, none⟩) (Kd.V_far (p := ⟨gb475, 0, none⟩) (Kd.V_far (p := ⟨gb474, 2, none⟩) (Kd.V_far (p := ⟨gb474, 1, none⟩) (Kd.V_far (p := ⟨gb474, 0, none⟩) (Kd.V_mono (Kd.V_mono HO466.out (fun k_ hk => (⟨hk, hk.1.2⟩ : _ ∧ k_ ≠ gb474))) (fun k_ hk => (⟨hk, hk.1.2⟩ : _ ∧ k_ ≠ gb475))) (fun _ hk => hk.1.2) (.int .i64 t462)) (fun _ hk => hk.1.2) (.int .i64 t463)) (fun _ hk => hk.1.2) (.slice Ao37 t464.length co37)) (fun _ hk => hk.2) (.int .i64 t467)) (fun _ hk => hk.2) (.int .i64 t468)) (fun _ hk => hk.2) (.slice Ao40 t469.length co40)) (fun _ h_ => h_.1)) (fun _ h_ => h_.1)))); (case side2 => exact (Kd.V_reads' HO466.out).2.1); rintro e w74 ⟨rfl, hb⟩; have n0_ := Aside0.mk (Kd.V_below (by (with_reducible repeat (first | apply Kd.V_alloc | apply Kd.V_drewN | apply Kd.V_drew)); exact (Kd.V_mono (Kd.V_mono (Kd.V_far (p := ⟨gb475, 2, none⟩) (Kd.V_far (p := ⟨gb475, 1, none⟩) (Kd.V_far (p := ⟨gb475, 0, none⟩) (Kd.V_far (p := ⟨gb474, 2, none⟩) (Kd.V_far (p := ⟨gb474, 1, none⟩) (Kd.V_far (p := ⟨gb474, 0, none⟩) (Kd.V_mono (Kd.V_mono HO466.out (fun k_ hk => (⟨hk, hk.1.2⟩ : _ ∧ k_ ≠ gb474))) (fun k_ hk => (⟨hk, hk.1.2⟩ : _ ∧ k_ ≠ gb475))) (fun _ hk => hk.1.2) (.int .i64 t462)) (fun _ hk => hk.1.2) (.int .i64 t463)) (fun _ hk => hk.1.2) (.slice Ao37 t464.length co37)) (fun _ hk => hk.2) (.int .i64 t467)) (fun _ hk => hk.2) (.int .i64 t468)) (fun _ hk => hk.2) (.slice Ao40 t469.length co40)) (fun _ h_ => h_.1)) (fun _ h_ => h_.1))) hb); have n1_ := Aside0.mk (Kd.V_below (by (with_reducible repeat (first | apply Kd.V_alloc | apply Kd.V_drewN | apply Kd.V_drew)); exact (Kd.V_mono (Kd.V_mono (Kd.V_far (p := ⟨gb475, 2, none⟩) (Kd.V_far (p := ⟨gb475, 1, none⟩) (Kd.V_far (p := ⟨gb475, 0, none⟩) (Kd.V_far (p := ⟨gb474, 2, none⟩) (Kd.V_far (p := ⟨gb474, 1, none⟩) (Kd.V_far (p := ⟨gb474, 0, none⟩) (Kd.V_mono (Kd.V_mono HO471.out (fun k_ hk => (⟨hk, hk.1.2⟩ : _ ∧ k_ ≠ gb474))) (fun k_ hk => (⟨hk, hk.1.2⟩ : _ ∧ k_ ≠ gb475))) (fun _ hk => hk.1.2) (.int .i64 t462)) (fun _ hk => hk.1.2) (.int .i64 t463)) (fun _ hk => hk.1.2) (.slice Ao37 t464.length co37)) (fun _ hk => hk.2) (.int .i64 t467)) (fun _ hk => hk.2) (.int .i64 t468)) (fun _ hk => hk.2) (.slice Ao40 t469.length co40)) (fun _ h_ => h_.1)) (fun _ h_ => h_.1))) hb); have n2_ := Aside0.mk (blk_below (g := gb459) (o := .cells #[.int .i64 a0_0, .int .i64 a0_1, .slice A0_2 l0_2.length c0_2] 24 (0, 0)) (by (with_reducible repeat (first | refine blk_drewN ?_ _ | refine blk_drew ?_ | refine blk_alloc ?_ _)); refine blk_far ?_ NB459_475.out _; (with_reducible repeat (first | refine blk_drewN ?_ _ | refine blk_drew ?_ | refine blk_alloc ?_ _)); refine blk_far ?_ NB459_475.out _; (with_reducible repeat (first | refine blk_drewN ?_ _ | refine blk_drew ?_ | refine blk_alloc ?_ _)); refine blk_far ?_ NB459_475.out _; (with_reducible repeat (first | refine blk_drewN ?_ _ | refine blk_drew ?_ | refine blk_alloc ?_ _)); refine blk_far ?_ NB459_474.out _; (with_reducible repeat (first | refine blk_drewN ?_ _ | refine blk_drew ?_ | refine blk_alloc ?_ _)); refine blk_far ?_ NB459_474.out _; (with_reducible repeat (first | refine blk_drewN ?_ _ | refine blk_drew ?_ | refine blk_alloc ?_ _)); refine blk_far ?_ NB459_474.out _; (with_reducible repeat (first | refine blk_drewN ?_ _ | refine blk_drew ?_ | refine blk_alloc ?_ _)); exact BK459.out) hb); have n3_ := Aside0.mk (blk_below (g := gb474) (o := .cells #[.int .i64 t462, .int .i64 t463, .slice Ao37 t464.length co37] 24 (0, 0)) (by (with_reducible repeat (first | refine blk_drewN ?_ _ | refine blk_drew ?_ | refine blk_alloc ?_ _)); refine blk_far ?_ NB474_475.out _; (with_reducible repeat (first | refine blk_drewN ?_ _ | refine blk_drew ?_ | refine blk_alloc ?_ _)); refine blk_far ?_ NB474_475.out _; (with_reducible repeat (first | refine blk_drewN ?_ _ | refine blk_drew ?_ | refine blk_alloc ?_ _)); refine blk_far ?_ NB474_475.out _; (with_reducible repeat (first | refine blk_drewN ?_ _ | refine blk_drew ?_ | refine blk_alloc ?_ _)); refine blk_put (cs := #[.int .i64 t462, .int .i64 t463, .slice none 0 0]) ?_ 2 _ rfl; (with_reducible repeat (first | refine blk_drewN ?_ _ | refine blk_drew ?_ | refine blk_alloc ?_ _)); refine blk_put (cs := #[.int .i64 t462, .int .i64 0, .slice none 0 0]) ?_ 1 _ rfl; (with_reducible repeat (first | refine blk_drewN ?_ _ | refine blk_drew ?_ | refine blk_alloc ?_ _)); refine blk_put (cs := #[.int .i64 0, .int .i64 0, .slice none 0 0]) ?_ 0 _ rfl; (with_reducible repeat (first | refine blk_drewN ?_ _ | refine blk_drew ?_ | refine blk_alloc ?_ _)); exact BK474.out) hb); have n4_ := Aside0.mk (blk_below (g := gb475) (o := .cells #[.int .i64 t467, .int .i64 t468, .slice Ao40 t469.length co40] 24 (0, 0)) (by (with_reducible repeat (first | refine blk_drewN ?_ _ | refine blk_drew ?_ | refine blk_alloc ?_ _)); refine blk_put (cs := #[.int .i64 t467, .int .i64 t468, .slice none 0 0]) ?_ 2 _ rfl; (with_reducible repeat (first | refine blk_drewN ?_ _ | refine blk_drew ?_ | refine blk_alloc ?_ _)); refine blk_put (cs := #[.int .i64 t467, .int .i64 0, .slice none 0 0]) ?_ 1 _ rfl; (with_reducible repeat (first | refine blk_drewN ?_ _ | refine blk_drew ?_ | refine blk_alloc ?_ _)); refine blk_put (cs := #[.int .i64 0, .int .i64 0, .slice none 0 0]) ?_ 0 _ rfl; (with_reducible repeat (first | refine blk_drewN ?_ _ | refine blk_drew ?_ | refine blk_alloc ?_ _)); refine blk_far ?_ NB475_474.out _; (with_reducible repeat (first | refine blk_drewN ?_ _ | refine blk_drew ?_ | refine blk_alloc ?_ _)); refine blk_far ?_ NB475_474.out _; (with_reducible repeat (first | refine blk_drewN ?_ _ | refine blk_drew ?_ | refine blk_alloc ?_ _)); refine blk_far ?_ NB475_474.out _; (with_reducible repeat (first | refine blk_drewN ?_ _ | refine blk_drew ?_ | refine blk_alloc ?_ _)); exact BK475.out) hb); have n5_ := Aside0.mk (below_step (by repeat (first | (with_reducible first | exact HB.out | apply below_alloc | apply pw_below_drewN | apply below_drew1 | refine below_set ?_ GE459.out | refine below_set ?_ GE474.out | refine below_set ?_ GE475.out) | exact HB.out)) hb); clear HO466; clear HO471; clear BK459; clear BK474; clear BK475; clear HB; have HO466 := n0_; have HO471 := n1_; have BK459 := n2_; have BK474 := n3_; have BK475 := n4_; have HB := n5_; clear n0_ n1_ n2_ n3_ n4_ n5_; (try clear hb); (try clear hb2); (try clear hk); (try clear hi); have hnb75 := NB475_459.out; have hnc75 := NB459_475.out; have hcz76_0 : w74.cell? ⟨gb475, 0, none⟩ = some (.int .i64 t467) := (blk_cell BK475.out 0).trans rfl; have hcz76_1 : w74.cell? ⟨gb475, 1, none⟩ = some (.int .i64 t468) := (blk_cell BK475.out 1).trans rfl; have hcz76_2 : w74.cell? ⟨gb475, 2, none⟩ = some (.slice Ao40 t469.length co40) := (blk_cell BK475.out 2).trans rfl; have hfz76_0 := blk_frozen BK475.out 0; have hfz76_1 := blk_frozen BK475.out 1; have hfz76_2 := blk_frozen BK475.out 2) | (go_at_call 11; (with_reducible refine (dasdref20_IsNode.calls kj4 t467 t468 _ _ t469 true _ ?side1 ?side2 A45.out).mono ?_); (case side1 => repeat (first | exact (Kd.V_reads' HO471.out).2.2 | (with_reducible refine Kd.C_alloc ?_ _) | (with_reducible refine Kd.C_drewN ?_ _) | (with_reducible refine Kd.C_drew ?_))); (case side2 => exact (Kd.V_reads' HO471.out).2.1); rintro e w77 ⟨rfl, hb⟩; have n0_ := Aside0.mk (Kd.V_below (by (with_reducible repeat (first | apply Kd.V_alloc | apply Kd.V_drewN | apply Kd.V_drew)); exact HO466.out) hb); have n1_ := Aside0.mk (Kd.V_below (by (with_reducible repeat (first | apply Kd.V_alloc | apply Kd.V_drewN | apply Kd.V_drew)); exact HO471.out) hb); have n2_ := Aside0.mk (blk_below (g := gb459) (o := .cells #[.int .i64 a0_0, .int .i64 a0_1, .slice A0_2 l0_2.length c0_2] 24 (0, 0)) (by (with_reducible repeat (first | refine blk_drewN ?_ _ | refine blk_drew ?_ | refine blk_alloc ?_ _)); exact BK459.out) hb); have n3_ := Aside0.mk (blk_below (g := gb474) (o := .cells #[.int .i64 t462, .int .i64 t463, .slice Ao37 t464.length co37] 24 (0, 0)) (by (with_reducible repeat (first | refine blk_drewN ?_ _ | refine blk_drew ?_ | refine blk_alloc ?_ _)); exact BK474.out) hb); have n4_ := Aside0.mk (blk_below (g := gb475) (o := .cells #[.int .i64 t467, .int .i64 t468, .slice Ao40 t469.length co40] 24 (0, 0)) (by (with_reducible repeat (first | refine blk_drewN ?_ _ | refine blk_drew ?_ | refine blk_alloc ?_ _)); exact BK475.out) hb); have n5_ := Aside0.mk (below_step (by repeat (first | (with_reducible first | exact HB.out | apply below_alloc | apply pw_below_drewN | apply below_drew1 | refine below_set ?_ GE459.out | refine below_set ?_ GE474.out | refine below_set ?_ GE475.out) | exact HB.out)) hb); clear HO466; clear HO471; clear BK459; clear BK474; clear BK475; clear HB; have HO466 := n0_; have HO471 := n1_; have BK459 := n2_; have BK474 := n3_; have BK475 := n4_; have HB := n5_; clear n0_ n1_ n2_ n3_ n4_ n5_; (try clear hb); (try clear hb2); (try clear hk); (try clear hi); have hcz78_0 : w77.cell? ⟨gb474, 0, none⟩ = some (.int .i64 t462) := (blk_cell BK474.out 0).trans rfl; have hcz78_1 : w77.cell? ⟨gb474, 1, none⟩ = some (.int .i64 t463) := (blk_cell BK474.out 1).trans rfl; have hcz78_2 : w77.cell? ⟨gb474, 2, none⟩ = some (.slice Ao37 t464.length co37) := (blk_cell BK474.out 2).trans rfl; have hfz78_0 := blk_frozen BK474.out 0; have hfz78_1 := blk_frozen BK474.out 1; have hfz78_2 := blk_frozen BK474.out 2; have hcz79_0 : w77.cell? ⟨gb475, 0, none⟩ = some (.int .i64 t467) := (blk_cell BK475.out 0).trans rfl; have hcz79_1 : w77.cell? ⟨gb475, 1, none⟩ = some (.int .i64 t468) := (blk_cell BK475.out 1).trans rfl; have hcz79_2 : w77.cell? ⟨gb475, 2, none⟩ = some (.slice Ao40 t469.length co40) := (blk_cell BK475.out 2).trans rfl; have hfz79_0 := blk_frozen BK475.out 0; have hfz79_1 := blk_frozen BK475.out 1; have hfz79_2 := blk_frozen BK475.out 2; have hcz80_0 : w77.cell? ⟨gb459, 0, none⟩ = some (.int .i64 a0_0) := (blk_cell BK459.out 0).trans rfl; have hcz80_1 : w77.cell? ⟨gb459, 1, none⟩ = some (.int .i64 a0_1) := (blk_cell BK459.out 1).trans rfl; have hcz80_2 : w77.cell? ⟨gb459, 2, none⟩ = some (.slice A0_2 l0_2.length c0_2) := (blk_cell BK459.out 2).trans rfl; have hfz80_0 := blk_frozen BK459.out 0; have hfz80_1 := blk_frozen BK459.out 1; have hfz80_2 := blk_frozen BK459.out 2))
                            go_meet
                            case rel => exact ⟨_, (true), (by first | rfl | (simp; done) | (simp [*]; done)), H', ⟨by have := HJ4.out; first | omega | exact Nat.le_refl _⟩, ⟨by (with_reducible repeat (first | apply Kd.V_alloc | apply Kd.V_drewN | apply Kd.V_drew)); exact Kd.V_mono HO466.out (fun _ hk => ⟨hk.1.1, ⟨hk.1.2, hk.2⟩⟩)⟩, ⟨by (with_reducible repeat (first | apply Kd.V_alloc | apply Kd.V_drewN | apply Kd.V_drew)); exact Kd.V_mono HO471.out (fun _ hk => ⟨hk.1.1, ⟨hk.1.2, hk.2⟩⟩)⟩, ⟨by (with_reducible repeat (first | refine blk_drewN ?_ _ | refine blk_drew ?_ | refine blk_alloc ?_ _)); exact BK459.out⟩, ⟨by (with_reducible repeat (first | refine blk_drewN ?_ _ | refine blk_drew ?_ | refine blk_alloc ?_ _)); exact BK474.out⟩, ⟨by (with_reducible repeat (first | refine blk_drewN ?_ _ | refine blk_drew ?_ | refine blk_alloc ?_ _)); exact BK475.out⟩, ⟨by repeat (first | (with_reducible first | exact HB.out | apply below_alloc | apply pw_below_drewN | apply below_drew1 | refine below_set ?_ GE459.out | refine below_set ?_ GE474.out | refine below_set ?_ GE475.out) | exact HB.out)⟩⟩
                          · rw [if_neg c70] at H
                            have c70b0 : (t472.toList == ([] : List UInt8)) = false := beq_eq_false_iff_ne.mpr c70
                            have c70b1 : (t472.toList != ([] : List UInt8)) = true := bne_iff_ne.mpr c70
                            have H' := Aside0.mk H
                            clear H
                            have hnb81 := NB474_459.out
                            have hnc81 := NB459_474.out
                            have hnb82 := NB474_475.out
                            have hnc82 := NB475_474.out
                            have hcz83_0 : w33.cell? ⟨gb474, 0, none⟩ = some (.int .i64 0) := (blk_cell BK474.out 0).trans rfl
                            have hcz83_1 : w33.cell? ⟨gb474, 1, none⟩ = some (.int .i64 0) := (blk_cell BK474.out 1).trans rfl
                            have hcz83_2 : w33.cell? ⟨gb474, 2, none⟩ = some (.slice none 0 0) := (blk_cell BK474.out 2).trans rfl
                            have hfz83_0 := blk_frozen BK474.out 0
                            have hfz83_1 := blk_frozen BK474.out 1
                            have hfz83_2 := blk_frozen BK474.out 2
                            go_wp2_with (first | (go_at_call 11; (with_reducible refine (dasdref20_IsNode.calls kj4 t462 t463 _ _ t464 true _ ?side1 ?side2 A43.out).mono ?_); (case side1 => refine (Kd.V_reads' (e := 32) (base := w.heap.size) (ok := fun k_ => ((k_ ≠ gb459 ∧ k_ ≠ gb474) ∧ k_ ≠ gb475)) (n := t464.length) (c := co37) ?_).2.2; exact (by (with_reducible repeat (first | apply Kd.V_alloc | apply Kd.V_drewN | apply Kd.V_drew)); exact (Kd.V_mono (Kd.V_mono (Kd.V_far (p := ⟨gb475, 2, none⟩) (Kd.V_far (p := ⟨gb475, 1, none⟩) (Kd.V_far (p := ⟨gb475, 0, none⟩) (Kd.V_far (p := ⟨gb474, 2, none⟩) (Kd.V_far (p := ⟨gb474, 1, none⟩) (Kd.V_far (p := ⟨gb474, 0, none⟩) (Kd.V_mono (Kd.V_mono HO466.out (fun k_ hk => (⟨hk, hk.1.2⟩ : _ ∧ k_ ≠ gb474))) (fun k_ hk => (⟨hk, hk.1.2⟩ : _ ∧ k_ ≠ gb475))) (fun _ hk => hk.1.2) (.int .i64 t462)) (fun _ hk => hk.1.2) (.int .i64 t463)) (fun _ hk => hk.1.2) (.slice Ao37 t464.length co37)) (fun _ hk => hk.2) (.int .i64 t467)) (fun _ hk => hk.2) (.int .i64 t468)) (fun _ hk => hk.2) (.slice Ao40 t469.length co40)) (fun _ h_ => h_.1)) (fun _ h_ => h_.1)))); (case side2 => exact (Kd.V_reads' HO466.out).2.1); rintro e w84 ⟨rfl, hb⟩; have n0_ := Aside0.mk (Kd.V_below (by (with_reducible repeat (first | apply Kd.V_alloc | apply Kd.V_drewN | apply Kd.V_drew)); exact (Kd.V_mono (Kd.V_mono (Kd.V_far (p := ⟨gb475, 2, none⟩) (Kd.V_far (p := ⟨gb475, 1, none⟩) (Kd.V_far (p := ⟨gb475, 0, none⟩) (Kd.V_far (p := ⟨gb474, 2, none⟩) (Kd.V_far (p := ⟨gb474, 1, none⟩) (Kd.V_far (p := ⟨gb474, 0, none⟩) (Kd.V_mono (Kd.V_mono HO466.out (fun k_ hk => (⟨hk, hk.1.2⟩ : _ ∧ k_ ≠ gb474))) (fun k_ hk => (⟨hk, hk.1.2⟩ : _ ∧ k_ ≠ gb475))) (fun _ hk => hk.1.2) (.int .i64 t462)) (fun _ hk => hk.1.2) (.int .i64 t463)) (fun _ hk => hk.1.2) (.slice Ao37 t464.length co37)) (fun _ hk => hk.2) (.int .i64 t467)) (fun _ hk => hk.2) (.int .i64 t468)) (fun _ hk => hk.2) (.slice Ao40 t469.length co40)) (fun _ h_ => h_.1)) (fun _ h_ => h_.1))) hb); have n1_ := Aside0.mk (Kd.V_below (by (with_reducible repeat (first | apply Kd.V_alloc | apply Kd.V_drewN | apply Kd.V_drew)); exact (Kd.V_mono (Kd.V_mono (Kd.V_far (p := ⟨gb475, 2, none⟩) (Kd.V_far (p := ⟨gb475, 1, none⟩) (Kd.V_far (p := ⟨gb475, 0, none⟩) (Kd.V_far (p := ⟨gb474, 2, none⟩) (Kd.V_far (p := ⟨gb474, 1, none⟩) (Kd.V_far (p := ⟨gb474, 0, none⟩) (Kd.V_mono (Kd.V_mono HO471.out (fun k_ hk => (⟨hk, hk.1.2⟩ : _ ∧ k_ ≠ gb474))) (fun k_ hk => (⟨hk, hk.1.2⟩ : _ ∧ k_ ≠ gb475))) (fun _ hk => hk.1.2) (.int .i64 t462)) (fun _ hk => hk.1.2) (.int .i64 t463)) (fun _ hk => hk.1.2) (.slice Ao37 t464.length co37)) (fun _ hk => hk.2) (.int .i64 t467)) (fun _ hk => hk.2) (.int .i64 t468)) (fun _ hk => hk.2) (.slice Ao40 t469.length co40)) (fun _ h_ => h_.1)) (fun _ h_ => h_.1))) hb); have n2_ := Aside0.mk (blk_below (g := gb459) (o := .cells #[.int .i64 a0_0, .int .i64 a0_1, .slice A0_2 l0_2.length c0_2] 24 (0, 0)) (by (with_reducible repeat (first | refine blk_drewN ?_ _ | refine blk_drew ?_ | refine blk_alloc ?_ _)); refine blk_far ?_ NB459_475.out _; (with_reducible repeat (first | refine blk_drewN ?_ _ | refine blk_drew ?_ | refine blk_alloc ?_ _)); refine blk_far ?_ NB459_475.out _; (with_reducible repeat (first | refine blk_drewN ?_ _ | refine blk_drew ?_ | refine blk_alloc ?_ _)); refine blk_far ?_ NB459_475.out _; (with_reducible repeat (first | refine blk_drewN ?_ _ | refine blk_drew ?_ | refine blk_alloc ?_ _)); refine blk_far ?_ NB459_474.out _; (with_reducible repeat (first | refine blk_drewN ?_ _ | refine blk_drew ?_ | refine blk_alloc ?_ _)); refine blk_far ?_ NB459_474.out _; (with_reducible repeat (first | refine blk_drewN ?_ _ | refine blk_drew ?_ | refine blk_alloc ?_ _)); refine blk_far ?_ NB459_474.out _; (with_reducible repeat (first | refine blk_drewN ?_ _ | refine blk_drew ?_ | refine blk_alloc ?_ _)); exact BK459.out) hb); have n3_ := Aside0.mk (blk_below (g := gb474) (o := .cells #[.int .i64 t462, .int .i64 t463, .slice Ao37 t464.length co37] 24 (0, 0)) (by (with_reducible repeat (first | refine blk_drewN ?_ _ | refine blk_drew ?_ | refine blk_alloc ?_ _)); refine blk_far ?_ NB474_475.out _; (with_reducible repeat (first | refine blk_drewN ?_ _ | refine blk_drew ?_ | refine blk_alloc ?_ _)); refine blk_far ?_ NB474_475.out _; (with_reducible repeat (first | refine blk_drewN ?_ _ | refine blk_drew ?_ | refine blk_alloc ?_ _)); refine blk_far ?_ NB474_475.out _; (with_reducible repeat (first | refine blk_drewN ?_ _ | refine blk_drew ?_ | refine blk_alloc ?_ _)); refine blk_put (cs := #[.int .i64 t462, .int .i64 t463, .slice none 0 0]) ?_ 2 _ rfl; (with_reducible repeat (first | refine blk_drewN ?_ _ | refine blk_drew ?_ | refine blk_alloc ?_ _)); refine blk_put (cs := #[.int .i64 t462, .int .i64 0, .slice none 0 0]) ?_ 1 _ rfl; (with_reducible repeat (first | refine blk_drewN ?_ _ | refine blk_drew ?_ | refine blk_alloc ?_ _)); refine blk_put (cs := #[.int .i64 0, .int .i64 0, .slice none 0 0]) ?_ 0 _ rfl; (with_reducible repeat (first | refine blk_drewN ?_ _ | refine blk_drew ?_ | refine blk_alloc ?_ _)); exact BK474.out) hb); have n4_ := Aside0.mk (blk_below (g := gb475) (o := .cells #[.int .i64 t467, .int .i64 t468, .slice Ao40 t469.length co40] 24 (0, 0)) (by (with_reducible repeat (first | refine blk_drewN ?_ _ | refine blk_drew ?_ | refine blk_alloc ?_ _)); refine blk_put (cs := #[.int .i64 t467, .int .i64 t468, .slice none 0 0]) ?_ 2 _ rfl; (with_reducible repeat (first | refine blk_drewN ?_ _ | refine blk_drew ?_ | refine blk_alloc ?_ _)); refine blk_put (cs := #[.int .i64 t467, .int .i64 0, .slice none 0 0]) ?_ 1 _ rfl; (with_reducible repeat (first | refine blk_drewN ?_ _ | refine blk_drew ?_ | refine blk_alloc ?_ _)); refine blk_put (cs := #[.int .i64 0, .int .i64 0, .slice none 0 0]) ?_ 0 _ rfl; (with_reducible repeat (first | refine blk_drewN ?_ _ | refine blk_drew ?_ | refine blk_alloc ?_ _)); refine blk_far ?_ NB475_474.out _; (with_reducible repeat (first | refine blk_drewN ?_ _ | refine blk_drew ?_ | refine blk_alloc ?_ _)); refine blk_far ?_ NB475_474.out _; (with_reducible repeat (first | refine blk_drewN ?_ _ | refine blk_drew ?_ | refine blk_alloc ?_ _)); refine blk_far ?_ NB475_474.out _; (with_reducible repeat (first | refine blk_drewN ?_ _ | refine blk_drew ?_ | refine blk_alloc ?_ _)); exact BK475.out) hb); have n5_ := Aside0.mk (below_step (by repeat (first | (with_reducible first | exact HB.out | apply below_alloc | apply pw_below_drewN | apply below_drew1 | refine below_set ?_ GE459.out | refine below_set ?_ GE474.out | refine below_set ?_ GE475.out) | exact HB.out)) hb); clear HO466; clear HO471; clear BK459; clear BK474; clear BK475; clear HB; have HO466 := n0_; have HO471 := n1_; have BK459 := n2_; have BK474 := n3_; have BK475 := n4_; have HB := n5_; clear n0_ n1_ n2_ n3_ n4_ n5_; (try clear hb); (try clear hb2); (try clear hk); (try clear hi); have hnb85 := NB475_459.out; have hnc85 := NB459_475.out; have hcz86_0 : w84.cell? ⟨gb475, 0, none⟩ = some (.int .i64 t467) := (blk_cell BK475.out 0).trans rfl; have hcz86_1 : w84.cell? ⟨gb475, 1, none⟩ = some (.int .i64 t468) := (blk_cell BK475.out 1).trans rfl; have hcz86_2 : w84.cell? ⟨gb475, 2, none⟩ = some (.slice Ao40 t469.length co40) := (blk_cell BK475.out 2).trans rfl; have hfz86_0 := blk_frozen BK475.out 0; have hfz86_1 := blk_frozen BK475.out 1; have hfz86_2 := blk_frozen BK475.out 2) | (go_at_call 11; (with_reducible refine (dasdref20_IsNode.calls kj4 t467 t468 _ _ t469 true _ ?side1 ?side2 A45.out).mono ?_); (case side1 => repeat (first | exact (Kd.V_reads' HO471.out).2.2 | (with_reducible refine Kd.C_alloc ?_ _) | (with_reducible refine Kd.C_drewN ?_ _) | (with_reducible refine Kd.C_drew ?_))); (case side2 => exact (Kd.V_reads' HO471.out).2.1); rintro e w87 ⟨rfl, hb⟩; have n0_ := Aside0.mk (Kd.V_below (by (with_reducible repeat (first | apply Kd.V_alloc | apply Kd.V_drewN | apply Kd.V_drew)); exact HO466.out) hb); have n1_ := Aside0.mk (Kd.V_below (by (with_reducible repeat (first | apply Kd.V_alloc | apply Kd.V_drewN | apply Kd.V_drew)); exact HO471.out) hb); have n2_ := Aside0.mk (blk_below (g := gb459) (o := .cells #[.int .i64 a0_0, .int .i64 a0_1, .slice A0_2 l0_2.length c0_2] 24 (0, 0)) (by (with_reducible repeat (first | refine blk_drewN ?_ _ | refine blk_drew ?_ | refine blk_alloc ?_ _)); exact BK459.out) hb); have n3_ := Aside0.mk (blk_below (g := gb474) (o := .cells #[.int .i64 t462, .int .i64 t463, .slice Ao37 t464.length co37] 24 (0, 0)) (by (with_reducible repeat (first | refine blk_drewN ?_ _ | refine blk_drew ?_ | refine blk_alloc ?_ _)); exact BK474.out) hb); have n4_ := Aside0.mk (blk_below (g := gb475) (o := .cells #[.int .i64 t467, .int .i64 t468, .slice Ao40 t469.length co40] 24 (0, 0)) (by (with_reducible repeat (first | refine blk_drewN ?_ _ | refine blk_drew ?_ | refine blk_alloc ?_ _)); exact BK475.out) hb); have n5_ := Aside0.mk (below_step (by repeat (first | (with_reducible first | exact HB.out | apply below_alloc | apply pw_below_drewN | apply below_drew1 | refine below_set ?_ GE459.out | refine below_set ?_ GE474.out | refine below_set ?_ GE475.out) | exact HB.out)) hb); clear HO466; clear HO471; clear BK459; clear BK474; clear BK475; clear HB; have HO466 := n0_; have HO471 := n1_; have BK459 := n2_; have BK474 := n3_; have BK475 := n4_; have HB := n5_; clear n0_ n1_ n2_ n3_ n4_ n5_; (try clear hb); (try clear hb2); (try clear hk); (try clear hi); have hcz88_0 : w87.cell? ⟨gb474, 0, none⟩ = some (.int .i64 t462) := (blk_cell BK474.out 0).trans rfl; have hcz88_1 : w87.cell? ⟨gb474, 1, none⟩ = some (.int .i64 t463) := (blk_cell BK474.out 1).trans rfl; have hcz88_2 : w87.cell? ⟨gb474, 2, none⟩ = some (.slice Ao37 t464.length co37) := (blk_cell BK474.out 2).trans rfl; have hfz88_0 := blk_frozen BK474.out 0; have hfz88_1 := blk_frozen BK474.out 1; have hfz88_2 := blk_frozen BK474.out 2; have hcz89_0 : w87.cell? ⟨gb475, 0, none⟩ = some (.int .i64 t467) := (blk_cell BK475.out 0).trans rfl; have hcz89_1 : w87.cell? ⟨gb475, 1, none⟩ = some (.int .i64 t468) := (blk_cell BK475.out 1).trans rfl; have hcz89_2 : w87.cell? ⟨gb475, 2, none⟩ = some (.slice Ao40 t469.length co40) := (blk_cell BK475.out 2).trans rfl; have hfz89_0 := blk_frozen BK475.out 0; have hfz89_1 := blk_frozen BK475.out 1; have hfz89_2 := blk_frozen BK475.out 2; have hcz90_0 : w87.cell? ⟨gb459, 0, none⟩ = some (.int .i64 a0_0) := (blk_cell BK459.out 0).trans rfl; have hcz90_1 : w87.cell? ⟨gb459, 1, none⟩ = some (.int .i64 a0_1) := (blk_cell BK459.out 1).trans rfl; have hcz90_2 : w87.cell? ⟨gb459, 2, none⟩ = some (.slice A0_2 l0_2.length c0_2) := (blk_cell BK459.out 2).trans rfl; have hfz90_0 := blk_frozen BK459.out 0; have hfz90_1 := blk_frozen BK459.out 1; have hfz90_2 := blk_frozen BK459.out 2))
                            go_meet
                            case rel => exact ⟨_, ((t468 != a0_1)), (by first | rfl | (simp; done) | (simp [*]; done)), H', ⟨by have := HJ4.out; first | omega | exact Nat.le_refl _⟩, ⟨by (with_reducible repeat (first | apply Kd.V_alloc | apply Kd.V_drewN | apply Kd.V_drew)); exact Kd.V_mono HO466.out (fun _ hk => ⟨hk.1.1, ⟨hk.1.2, hk.2⟩⟩)⟩, ⟨by (with_reducible repeat (first | apply Kd.V_alloc | apply Kd.V_drewN | apply Kd.V_drew)); exact Kd.V_mono HO471.out (fun _ hk => ⟨hk.1.1, ⟨hk.1.2, hk.2⟩⟩)⟩, ⟨by (with_reducible repeat (first | refine blk_drewN ?_ _ | refine blk_drew ?_ | refine blk_alloc ?_ _)); exact BK459.out⟩, ⟨by (with_reducible repeat (first | refine blk_drewN ?_ _ | refine blk_drew ?_ | refine blk_alloc ?_ _)); exact BK474.out⟩, ⟨by (with_reducible repeat (first | refine blk_drewN ?_ _ | refine blk_drew ?_ | refine blk_alloc ?_ _)); exact BK475.out⟩, ⟨by repeat (first | (with_reducible first | exact HB.out | apply below_alloc | apply pw_below_drewN | apply below_drew1 | refine below_set ?_ GE459.out | refine below_set ?_ GE474.out | refine below_set ?_ GE475.out) | exact HB.out)⟩⟩
                    · rw [if_neg c47] at H
                      have c47b0 : ((wrap64 ((t464.length : Int) + (t469.length : Int))) == (l0_2.length : Int)) = false := beq_eq_false_iff_ne.mpr c47
                      have c47b1 : ((wrap64 ((t464.length : Int) + (t469.length : Int))) != (l0_2.length : Int)) = true := bne_iff_ne.mpr c47
                      have H' := Aside0.mk H
                      clear H
                      have hnb91 := NB474_459.out
                      have hnc91 := NB459_474.out
                      have hnb92 := NB474_475.out
                      have hnc92 := NB475_474.out
                      have hcz93_0 : w33.cell? ⟨gb474, 0, none⟩ = some (.int .i64 0) := (blk_cell BK474.out 0).trans rfl
                      have hcz93_1 : w33.cell? ⟨gb474, 1, none⟩ = some (.int .i64 0) := (blk_cell BK474.out 1).trans rfl
                      have hcz93_2 : w33.cell? ⟨gb474, 2, none⟩ = some (.slice none 0 0) := (blk_cell BK474.out 2).trans rfl
                      have hfz93_0 := blk_frozen BK474.out 0
                      have hfz93_1 := blk_frozen BK474.out 1
                      have hfz93_2 := blk_frozen BK474.out 2
                      go_wp2_with (first | (go_at_call 11; (with_reducible refine (dasdref20_IsNode.calls kj4 t462 t463 _ _ t464 true _ ?side1 ?side2 A43.out).mono ?_); (case side1 => refine (Kd.V_reads' (e := 32) (base := w.heap.size) (ok := fun k_ => ((k_ ≠ gb459 ∧ k_ ≠ gb474) ∧ k_ ≠ gb475)) (n := t464.length) (c := co37) ?_).2.2; exact (by (with_reducible repeat (first | apply Kd.V_alloc | apply Kd.V_drewN | apply Kd.V_drew)); exact (Kd.V_mono (Kd.V_mono (Kd.V_far (p := ⟨gb475, 2, none⟩) (Kd.V_far (p := ⟨gb475, 1, none⟩) (Kd.V_far (p := ⟨gb475, 0, none⟩) (Kd.V_far (p := ⟨gb474, 2, none⟩) (Kd.V_far (p := ⟨gb474, 1, none⟩) (Kd.V_far (p := ⟨gb474, 0, none⟩) (Kd.V_mono (Kd.V_mono HO466.out (fun k_ hk => (⟨hk, hk.1.2⟩ : _ ∧ k_ ≠ gb474))) (fun k_ hk => (⟨hk, hk.1.2⟩ : _ ∧ k_ ≠ gb475))) (fun _ hk => hk.1.2) (.int .i64 t462)) (fun _ hk => hk.1.2) (.int .i64 t463)) (fun _ hk => hk.1.2) (.slice Ao37 t464.length co37)) (fun _ hk => hk.2) (.int .i64 t467)) (fun _ hk => hk.2) (.int .i64 t468)) (fun _ hk => hk.2) (.slice Ao40 t469.length co40)) (fun _ h_ => h_.1)) (fun _ h_ => h_.1)))); (case side2 => exact (Kd.V_reads' HO466.out).2.1); rintro e w94 ⟨rfl, hb⟩; have n0_ := Aside0.mk (Kd.V_below (by (with_reducible repeat (first | apply Kd.V_alloc | apply Kd.V_drewN | apply Kd.V_drew)); exact (Kd.V_mono (Kd.V_mono (Kd.V_far (p := ⟨gb475, 2, none⟩) (Kd.V_far (p := ⟨gb475, 1, none⟩) (Kd.V_far (p := ⟨gb475, 0, none⟩) (Kd.V_far (p := ⟨gb474, 2, none⟩) (Kd.V_far (p := ⟨gb474, 1, none⟩) (Kd.V_far (p := ⟨gb474, 0, none⟩) (Kd.V_mono (Kd.V_mono HO466.out (fun k_ hk => (⟨hk, hk.1.2⟩ : _ ∧ k_ ≠ gb474))) (fun k_ hk => (⟨hk, hk.1.2⟩ : _ ∧ k_ ≠ gb475))) (fun _ hk => hk.1.2) (.int .i64 t462)) (fun _ hk => hk.1.2) (.int .i64 t463)) (fun _ hk => hk.1.2) (.slice Ao37 t464.length co37)) (fun _ hk => hk.2) (.int .i64 t467)) (fun _ hk => hk.2) (.int .i64 t468)) (fun _ hk => hk.2) (.slice Ao40 t469.length co40)) (fun _ h_ => h_.1)) (fun _ h_ => h_.1))) hb); have n1_ := Aside0.mk (Kd.V_below (by (with_reducible repeat (first | apply Kd.V_alloc | apply Kd.V_drewN | apply Kd.V_drew)); exact (Kd.V_mono (Kd.V_mono (Kd.V_far (p := ⟨gb475, 2, none⟩) (Kd.V_far (p := ⟨gb475, 1, none⟩) (Kd.V_far (p := ⟨gb475, 0, none⟩) (Kd.V_far (p := ⟨gb474, 2, none⟩) (Kd.V_far (p := ⟨gb474, 1, none⟩) (Kd.V_far (p := ⟨gb474, 0, none⟩) (Kd.V_mono (Kd.V_mono HO471.out (fun k_ hk => (⟨hk, hk.1.2⟩ : _ ∧ k_ ≠ gb474))) (fun k_ hk => (⟨hk, hk.1.2⟩ : _ ∧ k_ ≠ gb475))) (fun _ hk => hk.1.2) (.int .i64 t462)) (fun _ hk => hk.1.2) (.int .i64 t463)) (fun _ hk => hk.1.2) (.slice Ao37 t464.length co37)) (fun _ hk => hk.2) (.int .i64 t467)) (fun _ hk => hk.2) (.int .i64 t468)) (fun _ hk => hk.2) (.slice Ao40 t469.length co40)) (fun _ h_ => h_.1)) (fun _ h_ => h_.1))) hb); have n2_ := Aside0.mk (blk_below (g := gb459) (o := .cells #[.int .i64 a0_0, .int .i64 a0_1, .slice A0_2 l0_2.length c0_2] 24 (0, 0)) (by (with_reducible repeat (first | refine blk_drewN ?_ _ | refine blk_drew ?_ | refine blk_alloc ?_ _)); refine blk_far ?_ NB459_475.out _; (with_reducible repeat (first | refine blk_drewN ?_ _ | refine blk_drew ?_ | refine blk_alloc ?_ _)); refine blk_far ?_ NB459_475.out _; (with_reducible repeat (first | refine blk_drewN ?_ _ | refine blk_drew ?_ | refine blk_alloc ?_ _)); refine blk_far ?_ NB459_475.out _; (with_reducible repeat (first | refine blk_drewN ?_ _ | refine blk_drew ?_ | refine blk_alloc ?_ _)); refine blk_far ?_ NB459_474.out _; (with_reducible repeat (first | refine blk_drewN ?_ _ | refine blk_drew ?_ | refine blk_alloc ?_ _)); refine blk_far ?_ NB459_474.out _; (with_reducible repeat (first | refine blk_drewN ?_ _ | refine blk_drew ?_ | refine blk_alloc ?_ _)); refine blk_far ?_ NB459_474.out _; (with_reducible repeat (first | refine blk_drewN ?_ _ | refine blk_drew ?_ | refine blk_alloc ?_ _)); exact BK459.out) hb); have n3_ := Aside0.mk (blk_below (g := gb474) (o := .cells #[.int .i64 t462, .int .i64 t463, .slice Ao37 t464.length co37] 24 (0, 0)) (by (with_reducible repeat (first | refine blk_drewN ?_ _ | refine blk_drew ?_ | refine blk_alloc ?_ _)); refine blk_far ?_ NB474_475.out _; (with_reducible repeat (first | refine blk_drewN ?_ _ | refine blk_drew ?_ | refine blk_alloc ?_ _)); refine blk_far ?_ NB474_475.out _; (with_reducible repeat (first | refine blk_drewN ?_ _ | refine blk_drew ?_ | refine blk_alloc ?_ _)); refine blk_far ?_ NB474_475.out _; (with_reducible repeat (first | refine blk_drewN ?_ _ | refine blk_drew ?_ | refine blk_alloc ?_ _)); refine blk_put (cs := #[.int .i64 t462, .int .i64 t463, .slice none 0 0]) ?_ 2 _ rfl; (with_reducible repeat (first | refine blk_drewN ?_ _ | refine blk_drew ?_ | refine blk_alloc ?_ _)); refine blk_put (cs := #[.int .i64 t462, .int .i64 0, .slice none 0 0]) ?_ 1 _ rfl; (with_reducible repeat (first | refine blk_drewN ?_ _ | refine blk_drew ?_ | refine blk_alloc ?_ _)); refine blk_put (cs := #[.int .i64 0, .int .i64 0, .slice none 0 0]) ?_ 0 _ rfl; (with_reducible repeat (first | refine blk_drewN ?_ _ | refine blk_drew ?_ | refine blk_alloc ?_ _)); exact BK474.out) hb); have n4_ := Aside0.mk (blk_below (g := gb475) (o := .cells #[.int .i64 t467, .int .i64 t468, .slice Ao40 t469.length co40] 24 (0, 0)) (by (with_reducible repeat (first | refine blk_drewN ?_ _ | refine blk_drew ?_ | refine blk_alloc ?_ _)); refine blk_put (cs := #[.int .i64 t467, .int .i64 t468, .slice none 0 0]) ?_ 2 _ rfl; (with_reducible repeat (first | refine blk_drewN ?_ _ | refine blk_drew ?_ | refine blk_alloc ?_ _)); refine blk_put (cs := #[.int .i64 t467, .int .i64 0, .slice none 0 0]) ?_ 1 _ rfl; (with_reducible repeat (first | refine blk_drewN ?_ _ | refine blk_drew ?_ | refine blk_alloc ?_ _)); refine blk_put (cs := #[.int .i64 0, .int .i64 0, .slice none 0 0]) ?_ 0 _ rfl; (with_reducible repeat (first | refine blk_drewN ?_ _ | refine blk_drew ?_ | refine blk_alloc ?_ _)); refine blk_far ?_ NB475_474.out _; (with_reducible repeat (first | refine blk_drewN ?_ _ | refine blk_drew ?_ | refine blk_alloc ?_ _)); refine blk_far ?_ NB475_474.out _; (with_reducible repeat (first | refine blk_drewN ?_ _ | refine blk_drew ?_ | refine blk_alloc ?_ _)); refine blk_far ?_ NB475_474.out _; (with_reducible repeat (first | refine blk_drewN ?_ _ | refine blk_drew ?_ | refine blk_alloc ?_ _)); exact BK475.out) hb); have n5_ := Aside0.mk (below_step (by repeat (first | (with_reducible first | exact HB.out | apply below_alloc | apply pw_below_drewN | apply below_drew1 | refine below_set ?_ GE459.out | refine below_set ?_ GE474.out | refine below_set ?_ GE475.out) | exact HB.out)) hb); clear HO466; clear HO471; clear BK459; clear BK474; clear BK475; clear HB; have HO466 := n0_; have HO471 := n1_; have BK459 := n2_; have BK474 := n3_; have BK475 := n4_; have HB := n5_; clear n0_ n1_ n2_ n3_ n4_ n5_; (try clear hb); (try clear hb2); (try clear hk); (try clear hi); have hnb95 := NB475_459.out; have hnc95 := NB459_475.out; have hcz96_0 : w94.cell? ⟨gb475, 0, none⟩ = some (.int .i64 t467) := (blk_cell BK475.out 0).trans rfl; have hcz96_1 : w94.cell? ⟨gb475, 1, none⟩ = some (.int .i64 t468) := (blk_cell BK475.out 1).trans rfl; have hcz96_2 : w94.cell? ⟨gb475, 2, none⟩ = some (.slice Ao40 t469.length co40) := (blk_cell BK475.out 2).trans rfl; have hfz96_0 := blk_frozen BK475.out 0; have hfz96_1 := blk_frozen BK475.out 1; have hfz96_2 := blk_frozen BK475.out 2) | (go_at_call 11; (with_reducible refine (dasdref20_IsNode.calls kj4 t467 t468 _ _ t469 true _ ?side1 ?side2 A45.out).mono ?_); (case side1 => repeat (first | exact (Kd.V_reads' HO471.out).2.2 | (with_reducible refine Kd.C_alloc ?_ _) | (with_reducible refine Kd.C_drewN ?_ _) | (with_reducible refine Kd.C_drew ?_))); (case side2 => exact (Kd.V_reads' HO471.out).2.1); rintro e w97 ⟨rfl, hb⟩; have n0_ := Aside0.mk (Kd.V_below (by (with_reducible repeat (first | apply Kd.V_alloc | apply Kd.V_drewN | apply Kd.V_drew)); exact HO466.out) hb); have n1_ := Aside0.mk (Kd.V_below (by (with_reducible repeat (first | apply Kd.V_alloc | apply Kd.V_drewN | apply Kd.V_drew)); exact HO471.out) hb); have n2_ := Aside0.mk (blk_below (g := gb459) (o := .cells #[.int .i64 a0_0, .int .i64 a0_1, .slice A0_2 l0_2.length c0_2] 24 (0, 0)) (by (with_reducible repeat (first | refine blk_drewN ?_ _ | refine blk_drew ?_ | refine blk_alloc ?_ _)); exact BK459.out) hb); have n3_ := Aside0.mk (blk_below (g := gb474) (o := .cells #[.int .i64 t462, .int .i64 t463, .slice Ao37 t464.length co37] 24 (0, 0)) (by (with_reducible repeat (first | refine blk_drewN ?_ _ | refine blk_drew ?_ | refine blk_alloc ?_ _)); exact BK474.out) hb); have n4_ := Aside0.mk (blk_below (g := gb475) (o := .cells #[.int .i64 t467, .int .i64 t468, .slice Ao40 t469.length co40] 24 (0, 0)) (by (with_reducible repeat (first | refine blk_drewN ?_ _ | refine blk_drew ?_ | refine blk_alloc ?_ _)); exact BK475.out) hb); have n5_ := Aside0.mk (below_step (by repeat (first | (with_reducible first | exact HB.out | apply below_alloc | apply pw_below_drewN | apply below_drew1 | refine below_set ?_ GE459.out | refine below_set ?_ GE474.out | refine below_set ?_ GE475.out) | exact HB.out)) hb); clear HO466; clear HO471; clear BK459; clear BK474; clear BK475; clear HB; have HO466 := n0_; have HO471 := n1_; have BK459 := n2_; have BK474 := n3_; have BK475 := n4_; have HB := n5_; clear n0_ n1_ n2_ n3_ n4_ n5_; (try clear hb); (try clear hb2); (try clear hk); (try clear hi); have hcz98_0 : w97.cell? ⟨gb474, 0, none⟩ = some (.int .i64 t462) := (blk_cell BK474.out 0).trans rfl; have hcz98_1 : w97.cell? ⟨gb474, 1, none⟩ = some (.int .i64 t463) := (blk_cell BK474.out 1).trans rfl; have hcz98_2 : w97.cell? ⟨gb474, 2, none⟩ = some (.slice Ao37 t464.length co37) := (blk_cell BK474.out 2).trans rfl; have hfz98_0 := blk_frozen BK474.out 0; have hfz98_1 := blk_frozen BK474.out 1; have hfz98_2 := blk_frozen BK474.out 2; have hcz99_0 : w97.cell? ⟨gb475, 0, none⟩ = some (.int .i64 t467) := (blk_cell BK475.out 0).trans rfl; have hcz99_1 : w97.cell? ⟨gb475, 1, none⟩ = some (.int .i64 t468) := (blk_cell BK475.out 1).trans rfl; have hcz99_2 : w97.cell? ⟨gb475, 2, none⟩ = some (.slice Ao40 t469.length co40) := (blk_cell BK475.out 2).trans rfl; have hfz99_0 := blk_frozen BK475.out 0; have hfz99_1 := blk_frozen BK475.out 1; have hfz99_2 := blk_frozen BK475.out 2; have hcz100_0 : w97.cell? ⟨gb459, 0, none⟩ = some (.int .i64 a0_0) := (blk_cell BK459.out 0).trans rfl; have hcz100_1 : w97.cell? ⟨gb459, 1, none⟩ = some (.int .i64 a0_1) := (blk_cell BK459.out 1).trans rfl; have hcz100_2 : w97.cell? ⟨gb459, 2, none⟩ = some (.slice A0_2 l0_2.length c0_2) := (blk_cell BK459.out 2).trans rfl; have hfz100_0 := blk_frozen BK459.out 0; have hfz100_1 := blk_frozen BK459.out 1; have hfz100_2 := blk_frozen BK459.out 2))
                      go_meet
                      case rel => exact ⟨_, (true), (by first | rfl | (simp; done) | (simp [*]; done)), H', ⟨by have := HJ4.out; first | omega | exact Nat.le_refl _⟩, ⟨by (with_reducible repeat (first | apply Kd.V_alloc | apply Kd.V_drewN | apply Kd.V_drew)); exact Kd.V_mono HO466.out (fun _ hk => ⟨hk.1.1, ⟨hk.1.2, hk.2⟩⟩)⟩, ⟨by (with_reducible repeat (first | apply Kd.V_alloc | apply Kd.V_drewN | apply Kd.V_drew)); exact Kd.V_mono HO471.out (fun _ hk => ⟨hk.1.1, ⟨hk.1.2, hk.2⟩⟩)⟩, ⟨by (with_reducible repeat (first | refine blk_drewN ?_ _ | refine blk_drew ?_ | refine blk_alloc ?_ _)); exact BK459.out⟩, ⟨by (with_reducible repeat (first | refine blk_drewN ?_ _ | refine blk_drew ?_ | refine blk_alloc ?_ _)); exact BK474.out⟩, ⟨by (with_reducible repeat (first | refine blk_drewN ?_ _ | refine blk_drew ?_ | refine blk_alloc ?_ _)); exact BK475.out⟩, ⟨by repeat (first | (with_reducible first | exact HB.out | apply below_alloc | apply pw_below_drewN | apply below_drew1 | refine below_set ?_ GE459.out | refine below_set ?_ GE474.out | refine below_set ?_ GE475.out) | exact HB.out)⟩⟩
                  · replace c46 := Bool.eq_false_iff.mpr c46
                    subst c46
                    have H1 : (dasdlaw20_NodeHalves.j1 kj4 a1 t472 true a0_0 a0_1 l0_2 t462 t463 t464 t467 t468 t469) = some r := by rw [if_neg (show ¬ (false = true) by decide)] at H; exact H
                    clear H
                    have H := H1
                    clear H1
                    have H' := Aside0.mk H
                    clear H
                    have hnb101 := NB474_459.out
                    have hnc101 := NB459_474.out
                    have hnb102 := NB474_475.out
                    have hnc102 := NB475_474.out
                    have hcz103_0 : w33.cell? ⟨gb474, 0, none⟩ = some (.int .i64 0) := (blk_cell BK474.out 0).trans rfl
                    have hcz103_1 : w33.cell? ⟨gb474, 1, none⟩ = some (.int .i64 0) := (blk_cell BK474.out 1).trans rfl
                    have hcz103_2 : w33.cell? ⟨gb474, 2, none⟩ = some (.slice none 0 0) := (blk_cell BK474.out 2).trans rfl
                    have hfz103_0 := blk_frozen BK474.out 0
                    have hfz103_1 := blk_frozen BK474.out 1
                    have hfz103_2 := blk_frozen BK474.out 2
                    go_wp2_with (first | (go_at_call 11; (with_reducible refine (dasdref20_IsNode.calls kj4 t462 t463 _ _ t464 true _ ?side1 ?side2 A43.out).mono ?_); (case side1 => refine (Kd.V_reads' (e := 32) (base := w.heap.size) (ok := fun k_ => ((k_ ≠ gb459 ∧ k_ ≠ gb474) ∧ k_ ≠ gb475)) (n := t464.length) (c := co37) ?_).2.2; exact (by (with_reducible repeat (first | apply Kd.V_alloc | apply Kd.V_drewN | apply Kd.V_drew)); exact (Kd.V_mono (Kd.V_mono (Kd.V_far (p := ⟨gb475, 2, none⟩) (Kd.V_far (p := ⟨gb475, 1, none⟩) (Kd.V_far (p := ⟨gb475, 0, none⟩) (Kd.V_far (p := ⟨gb474, 2, none⟩) (Kd.V_far (p := ⟨gb474, 1, none⟩) (Kd.V_far (p := ⟨gb474, 0, none⟩) (Kd.V_mono (Kd.V_mono HO466.out (fun k_ hk => (⟨hk, hk.1.2⟩ : _ ∧ k_ ≠ gb474))) (fun k_ hk => (⟨hk, hk.1.2⟩ : _ ∧ k_ ≠ gb475))) (fun _ hk => hk.1.2) (.int .i64 t462)) (fun _ hk => hk.1.2) (.int .i64 t463)) (fun _ hk => hk.1.2) (.slice Ao37 t464.length co37)) (fun _ hk => hk.2) (.int .i64 t467)) (fun _ hk => hk.2) (.int .i64 t468)) (fun _ hk => hk.2) (.slice Ao40 t469.length co40)) (fun _ h_ => h_.1)) (fun _ h_ => h_.1)))); (case side2 => exact (Kd.V_reads' HO466.out).2.1); rintro e w104 ⟨rfl, hb⟩; have n0_ := Aside0.mk (Kd.V_below (by (with_reducible repeat (first | apply Kd.V_alloc | apply Kd.V_drewN | apply Kd.V_drew)); exact (Kd.V_mono (Kd.V_mono (Kd.V_far (p := ⟨gb475, 2, none⟩) (Kd.V_far (p := ⟨gb475, 1, none⟩) (Kd.V_far (p := ⟨gb475, 0, none⟩) (Kd.V_far (p := ⟨gb474, 2, none⟩) (Kd.V_far (p := ⟨gb474, 1, none⟩) (Kd.V_far (p := ⟨gb474, 0, none⟩) (Kd.V_mono (Kd.V_mono HO466.out (fun k_ hk => (⟨hk, hk.1.2⟩ : _ ∧ k_ ≠ gb474))) (fun k_ hk => (⟨hk, hk.1.2⟩ : _ ∧ k_ ≠ gb475))) (fun _ hk => hk.1.2) (.int .i64 t462)) (fun _ hk => hk.1.2) (.int .i64 t463)) (fun _ hk => hk.1.2) (.slice Ao37 t464.length co37)) (fun _ hk => hk.2) (.int .i64 t467)) (fun _ hk => hk.2) (.int .i64 t468)) (fun _ hk => hk.2) (.slice Ao40 t469.length co40)) (fun _ h_ => h_.1)) (fun _ h_ => h_.1))) hb); have n1_ := Aside0.mk (Kd.V_below (by (with_reducible repeat (first | apply Kd.V_alloc | apply Kd.V_drewN | apply Kd.V_drew)); exact (Kd.V_mono (Kd.V_mono (Kd.V_far (p := ⟨gb475, 2, none⟩) (Kd.V_far (p := ⟨gb475, 1, none⟩) (Kd.V_far (p := ⟨gb475, 0, none⟩) (Kd.V_far (p := ⟨gb474, 2, none⟩) (Kd.V_far (p := ⟨gb474, 1, none⟩) (Kd.V_far (p := ⟨gb474, 0, none⟩) (Kd.V_mono (Kd.V_mono HO471.out (fun k_ hk => (⟨hk, hk.1.2⟩ : _ ∧ k_ ≠ gb474))) (fun k_ hk => (⟨hk, hk.1.2⟩ : _ ∧ k_ ≠ gb475))) (fun _ hk => hk.1.2) (.int .i64 t462)) (fun _ hk => hk.1.2) (.int .i64 t463)) (fun _ hk => hk.1.2) (.slice Ao37 t464.length co37)) (fun _ hk => hk.2) (.int .i64 t467)) (fun _ hk => hk.2) (.int .i64 t468)) (fun _ hk => hk.2) (.slice Ao40 t469.length co40)) (fun _ h_ => h_.1)) (fun _ h_ => h_.1))) hb); have n2_ := Aside0.mk (blk_below (g := gb459) (o := .cells #[.int .i64 a0_0, .int .i64 a0_1, .slice A0_2 l0_2.length c0_2] 24 (0, 0)) (by (with_reducible repeat (first | refine blk_drewN ?_ _ | refine blk_drew ?_ | refine blk_alloc ?_ _)); refine blk_far ?_ NB459_475.out _; (with_reducible repeat (first | refine blk_drewN ?_ _ | refine blk_drew ?_ | refine blk_alloc ?_ _)); refine blk_far ?_ NB459_475.out _; (with_reducible repeat (first | refine blk_drewN ?_ _ | refine blk_drew ?_ | refine blk_alloc ?_ _)); refine blk_far ?_ NB459_475.out _; (with_reducible repeat (first | refine blk_drewN ?_ _ | refine blk_drew ?_ | refine blk_alloc ?_ _)); refine blk_far ?_ NB459_474.out _; (with_reducible repeat (first | refine blk_drewN ?_ _ | refine blk_drew ?_ | refine blk_alloc ?_ _)); refine blk_far ?_ NB459_474.out _; (with_reducible repeat (first | refine blk_drewN ?_ _ | refine blk_drew ?_ | refine blk_alloc ?_ _)); refine blk_far ?_ NB459_474.out _; (with_reducible repeat (first | refine blk_drewN ?_ _ | refine blk_drew ?_ | refine blk_alloc ?_ _)); exact BK459.out) hb); have n3_ := Aside0.mk (blk_below (g := gb474) (o := .cells #[.int .i64 t462, .int .i64 t463, .slice Ao37 t464.length co37] 24 (0, 0)) (by (with_reducible repeat (first | refine blk_drewN ?_ _ | refine blk_drew ?_ | refine blk_alloc ?_ _)); refine blk_far ?_ NB474_475.out _; (with_reducible repeat (first | refine blk_drewN ?_ _ | refine blk_drew ?_ | refine blk_alloc ?_ _)); refine blk_far ?_ NB474_475.out _; (with_reducible repeat (first | refine blk_drewN ?_ _ | refine blk_drew ?_ | refine blk_alloc ?_ _)); refine blk_far ?_ NB474_475.out _; (with_reducible repeat (first | refine blk_drewN ?_ _ | refine blk_drew ?_ | refine blk_alloc ?_ _)); refine blk_put (cs := #[.int .i64 t462, .int .i64 t463, .slice none 0 0]) ?_ 2 _ rfl; (with_reducible repeat (first | refine blk_drewN ?_ _ | refine blk_drew ?_ | refine blk_alloc ?_ _)); refine blk_put (cs := #[.int .i64 t462, .int .i64 0, .slice none 0 0]) ?_ 1 _ rfl; (with_reducible repeat (first | refine blk_drewN ?_ _ | refine blk_drew ?_ | refine blk_alloc ?_ _)); refine blk_put (cs := #[.int .i64 0, .int .i64 0, .slice none 0 0]) ?_ 0 _ rfl; (with_reducible repeat (first | refine blk_drewN ?_ _ | refine blk_drew ?_ | refine blk_alloc ?_ _)); exact BK474.out) hb); have n4_ := Aside0.mk (blk_below (g := gb475) (o := .cells #[.int .i64 t467, .int .i64 t468, .slice Ao40 t469.length co40] 24 (0, 0)) (by (with_reducible repeat (first | refine blk_drewN ?_ _ | refine blk_drew ?_ | refine blk_alloc ?_ _)); refine blk_put (cs := #[.int .i64 t467, .int .i64 t468, .slice none 0 0]) ?_ 2 _ rfl; (with_reducible repeat (first | refine blk_drewN ?_ _ | refine blk_drew ?_ | refine blk_alloc ?_ _)); refine blk_put (cs := #[.int .i64 t467, .int .i64 0, .slice none 0 0]) ?_ 1 _ rfl; (with_reducible repeat (first | refine blk_drewN ?_ _ | refine blk_drew ?_ | refine blk_alloc ?_ _)); refine blk_put (cs := #[.int .i64 0, .int .i64 0, .slice none 0 0]) ?_ 0 _ rfl; (with_reducible repeat (first | refine blk_drewN ?_ _ | refine blk_drew ?_ | refine blk_alloc ?_ _)); refine blk_far ?_ NB475_474.out _; (with_reducible repeat (first | refine blk_drewN ?_ _ | refine blk_drew ?_ | refine blk_alloc ?_ _)); refine blk_far ?_ NB475_474.out _; (with_reducible repeat (first | refine blk_drewN ?_ _ | refine blk_drew ?_ | refine blk_alloc ?_ _)); refine blk_far ?_ NB475_474.out _; (with_reducible repeat (first | refine blk_drewN ?_ _ | refine blk_drew ?_ | refine blk_alloc ?_ _)); exact BK475.out) hb); have n5_ := Aside0.mk (below_step (by repeat (first | (with_reducible first | exact HB.out | apply below_alloc | apply pw_below_drewN | apply below_drew1 | refine below_set ?_ GE459.out | refine below_set ?_ GE474.out | refine below_set ?_ GE475.out) | exact HB.out)) hb); clear HO466; clear HO471; clear BK459; clear BK474; clear BK475; clear HB; have HO466 := n0_; have HO471 := n1_; have BK459 := n2_; have BK474 := n3_; have BK475 := n4_; have HB := n5_; clear n0_ n1_ n2_ n3_ n4_ n5_; (try clear hb); (try clear hb2); (try clear hk); (try clear hi); have hnb105 := NB475_459.out; have hnc105 := NB459_475.out; have hcz106_0 : w104.cell? ⟨gb475, 0, none⟩ = some (.int .i64 t467) := (blk_cell BK475.out 0).trans rfl; have hcz106_1 : w104.cell? ⟨gb475, 1, none⟩ = some (.int .i64 t468) := (blk_cell BK475.out 1).trans rfl; have hcz106_2 : w104.cell? ⟨gb475, 2, none⟩ = some (.slice Ao40 t469.length co40) := (blk_cell BK475.out 2).trans rfl; have hfz106_0 := blk_frozen BK475.out 0; have hfz106_1 := blk_frozen BK475.out 1; have hfz106_2 := blk_frozen BK475.out 2) | (go_at_call 11; (with_reducible refine (dasdref20_IsNode.calls kj4 t467 t468 _ _ t469 false _ ?side1 ?side2 A45.out).mono ?_); (case side1 => repeat (first | exact (Kd.V_reads' HO471.out).2.2 | (with_reducible refine Kd.C_alloc ?_ _) | (with_reducible refine Kd.C_drewN ?_ _) | (with_reducible refine Kd.C_drew ?_))); (case side2 => exact (Kd.V_reads' HO471.out).2.1); rintro e w107 ⟨rfl, hb⟩; have n0_ := Aside0.mk (Kd.V_below (by (with_reducible repeat (first | apply Kd.V_alloc | apply Kd.V_drewN | apply Kd.V_drew)); exact HO466.out) hb); have n1_ := Aside0.mk (Kd.V_below (by (with_reducible repeat (first | apply Kd.V_alloc | apply Kd.V_drewN | apply Kd.V_drew)); exact HO471.out) hb); have n2_ := Aside0.mk (blk_below (g := gb459) (o := .cells #[.int .i64 a0_0, .int .i64 a0_1, .slice A0_2 l0_2.length c0_2] 24 (0, 0)) (by (with_reducible repeat (first | refine blk_drewN ?_ _ | refine blk_drew ?_ | refine blk_alloc ?_ _)); exact BK459.out) hb); have n3_ := Aside0.mk (blk_below (g := gb474) (o := .cells #[.int .i64 t462, .int .i64 t463, .slice Ao37 t464.length co37] 24 (0, 0)) (by (with_reducible repeat (first | refine blk_drewN ?_ _ | refine blk_drew ?_ | refine blk_alloc ?_ _)); exact BK474.out) hb); have n4_ := Aside0.mk (blk_below (g := gb475) (o := .cells #[.int .i64 t467, .int .i64 t468, .slice Ao40 t469.length co40] 24 (0, 0)) (by (with_reducible repeat (first | refine blk_drewN ?_ _ | refine blk_drew ?_ | refine blk_alloc ?_ _)); exact BK475.out) hb); have n5_ := Aside0.mk (below_step (by repeat (first | (with_reducible first | exact HB.out | apply below_alloc | apply pw_below_drewN | apply below_drew1 | refine below_set ?_ GE459.out | refine below_set ?_ GE474.out | refine below_set ?_ GE475.out) | exact HB.out)) hb); clear HO466; clear HO471; clear BK459; clear BK474; clear BK475; clear HB; have HO466 := n0_; have HO471 := n1_; have BK459 := n2_; have BK474 := n3_; have BK475 := n4_; have HB := n5_; clear n0_ n1_ n2_ n3_ n4_ n5_; (try clear hb); (try clear hb2); (try clear hk); (try clear hi)))
                    go_meet
                    case rel => exact ⟨_, (true), (by first | rfl | (simp; done) | (simp [*]; done)), H', ⟨by have := HJ4.out; first | omega | exact Nat.le_refl _⟩, ⟨by (with_reducible repeat (first | apply Kd.V_alloc | apply Kd.V_drewN | apply Kd.V_drew)); exact Kd.V_mono HO466.out (fun _ hk => ⟨hk.1.1, ⟨hk.1.2, hk.2⟩⟩)⟩, ⟨by (with_reducible repeat (first | apply Kd.V_alloc | apply Kd.V_drewN | apply Kd.V_drew)); exact Kd.V_mono HO471.out (fun _ hk => ⟨hk.1.1, ⟨hk.1.2, hk.2⟩⟩)⟩, ⟨by (with_reducible repeat (first | refine blk_drewN ?_ _ | refine blk_drew ?_ | refine blk_alloc ?_ _)); exact BK459.out⟩, ⟨by (with_reducible repeat (first | refine blk_drewN ?_ _ | refine blk_drew ?_ | refine blk_alloc ?_ _)); exact BK474.out⟩, ⟨by (with_reducible repeat (first | refine blk_drewN ?_ _ | refine blk_drew ?_ | refine blk_alloc ?_ _)); exact BK475.out⟩, ⟨by repeat (first | (with_reducible first | exact HB.out | apply below_alloc | apply pw_below_drewN | apply below_drew1 | refine below_set ?_ GE459.out | refine below_set ?_ GE474.out | refine below_set ?_ GE475.out) | exact HB.out)⟩⟩
                · replace c44 := Bool.eq_false_iff.mpr c44
                  subst c44
                  have H1 : (dasdlaw20_NodeHalves.j1 kj4 a1 t472 true a0_0 a0_1 l0_2 t462 t463 t464 t467 t468 t469) = some r := by rw [if_neg (show ¬ (false = true) by decide)] at H; exact H
                  clear H
                  have H := H1
                  clear H1
                  have H' := Aside0.mk H
                  clear H
                  have hnb108 := NB474_459.out
                  have hnc108 := NB459_474.out
                  have hnb109 := NB474_475.out
                  have hnc109 := NB475_474.out
                  have hcz110_0 : w33.cell? ⟨gb474, 0, none⟩ = some (.int .i64 0) := (blk_cell BK474.out 0).trans rfl
                  have hcz110_1 : w33.cell? ⟨gb474, 1, none⟩ = some (.int .i64 0) := (blk_cell BK474.out 1).trans rfl
                  have hcz110_2 : w33.cell? ⟨gb474, 2, none⟩ = some (.slice none 0 0) := (blk_cell BK474.out 2).trans rfl
                  have hfz110_0 := blk_frozen BK474.out 0
                  have hfz110_1 := blk_frozen BK474.out 1
                  have hfz110_2 := blk_frozen BK474.out 2
                  go_wp2_with (first | (go_at_call 11; (with_reducible refine (dasdref20_IsNode.calls kj4 t462 t463 _ _ t464 false _ ?side1 ?side2 A43.out).mono ?_); (case side1 => refine (Kd.V_reads' (e := 32) (base := w.heap.size) (ok := fun k_ => ((k_ ≠ gb459 ∧ k_ ≠ gb474) ∧ k_ ≠ gb475)) (n := t464.length) (c := co37) ?_).2.2; exact (by (with_reducible repeat (first | apply Kd.V_alloc | apply Kd.V_drewN | apply Kd.V_drew)); exact (Kd.V_mono (Kd.V_mono (Kd.V_far (p := ⟨gb475, 2, none⟩) (Kd.V_far (p := ⟨gb475, 1, none⟩) (Kd.V_far (p := ⟨gb475, 0, none⟩) (Kd.V_far (p := ⟨gb474, 2, none⟩) (Kd.V_far (p := ⟨gb474, 1, none⟩) (Kd.V_far (p := ⟨gb474, 0, none⟩) (Kd.V_mono (Kd.V_mono HO466.out (fun k_ hk => (⟨hk, hk.1.2⟩ : _ ∧ k_ ≠ gb474))) (fun k_ hk => (⟨hk, hk.1.2⟩ : _ ∧ k_ ≠ gb475))) (fun _ hk => hk.1.2) (.int .i64 t462)) (fun _ hk => hk.1.2) (.int .i64 t463)) (fun _ hk => hk.1.2) (.slice Ao37 t464.length co37)) (fun _ hk => hk.2) (.int .i64 t467)) (fun _ hk => hk.2) (.int .i64 t468)) (fun _ hk => hk.2) (.slice Ao40 t469.length co40)) (fun _ h_ => h_.1)) (fun _ h_ => h_.1)))); (case side2 => exact (Kd.V_reads' HO466.out).2.1); rintro e w111 ⟨rfl, hb⟩; have n0_ := Aside0.mk (Kd.V_below (by (with_reducible repeat (first | apply Kd.V_alloc | apply Kd.V_drewN | apply Kd.V_drew)); exact (Kd.V_mono (Kd.V_mono (Kd.V_far (p := ⟨gb475, 2, none⟩) (Kd.V_far (p := ⟨gb475, 1, none⟩) (Kd.V_far (p := ⟨gb475, 0, none⟩) (Kd.V_far (p := ⟨gb474, 2, none⟩) (Kd.V_far (p := ⟨gb474, 1, none⟩) (Kd.V_far (p := ⟨gb474, 0, none⟩) (Kd.V_mono (Kd.V_mono HO466.out (fun k_ hk => (⟨hk, hk.1.2⟩ : _ ∧ k_ ≠ gb474))) (fun k_ hk => (⟨hk, hk.1.2⟩ : _ ∧ k_ ≠ gb475))) (fun _ hk => hk.1.2) (.int .i64 t462)) (fun _ hk => hk.1.2) (.int .i64 t463)) (fun _ hk => hk.1.2) (.slice Ao37 t464.length co37)) (fun _ hk => hk.2) (.int .i64 t467)) (fun _ hk => hk.2) (.int .i64 t468)) (fun _ hk => hk.2) (.slice Ao40 t469.length co40)) (fun _ h_ => h_.1)) (fun _ h_ => h_.1))) hb); have n1_ := Aside0.mk (Kd.V_below (by (with_reducible repeat (first | apply Kd.V_alloc | apply Kd.V_drewN | apply Kd.V_drew)); exact (Kd.V_mono (Kd.V_mono (Kd.V_far (p := ⟨gb475, 2, none⟩) (Kd.V_far (p := ⟨gb475, 1, none⟩) (Kd.V_far (p := ⟨gb475, 0, none⟩) (Kd.V_far (p := ⟨gb474, 2, none⟩) (Kd.V_far (p := ⟨gb474, 1, none⟩) (Kd.V_far (p := ⟨gb474, 0, none⟩) (Kd.V_mono (Kd.V_mono HO471.out (fun k_ hk => (⟨hk, hk.1.2⟩ : _ ∧ k_ ≠ gb474))) (fun k_ hk => (⟨hk, hk.1.2⟩ : _ ∧ k_ ≠ gb475))) (fun _ hk => hk.1.2) (.int .i64 t462)) (fun _ hk => hk.1.2) (.int .i64 t463)) (fun _ hk => hk.1.2) (.slice Ao37 t464.length co37)) (fun _ hk => hk.2) (.int .i64 t467)) (fun _ hk => hk.2) (.int .i64 t468)) (fun _ hk => hk.2) (.slice Ao40 t469.length co40)) (fun _ h_ => h_.1)) (fun _ h_ => h_.1))) hb); have n2_ := Aside0.mk (blk_below (g := gb459) (o := .cells #[.int .i64 a0_0, .int .i64 a0_1, .slice A0_2 l0_2.length c0_2] 24 (0, 0)) (by (with_reducible repeat (first | refine blk_drewN ?_ _ | refine blk_drew ?_ | refine blk_alloc ?_ _)); refine blk_far ?_ NB459_475.out _; (with_reducible repeat (first | refine blk_drewN ?_ _ | refine blk_drew ?_ | refine blk_alloc ?_ _)); refine blk_far ?_ NB459_475.out _; (with_reducible repeat (first | refine blk_drewN ?_ _ | refine blk_drew ?_ | refine blk_alloc ?_ _)); refine blk_far ?_ NB459_475.out _; (with_reducible repeat (first | refine blk_drewN ?_ _ | refine blk_drew ?_ | refine blk_alloc ?_ _)); refine blk_far ?_ NB459_474.out _; (with_reducible repeat (first | refine blk_drewN ?_ _ | refine blk_drew ?_ | refine blk_alloc ?_ _)); refine blk_far ?_ NB459_474.out _; (with_reducible repeat (first | refine blk_drewN ?_ _ | refine blk_drew ?_ | refine blk_alloc ?_ _)); refine blk_far ?_ NB459_474.out _; (with_reducible repeat (first | refine blk_drewN ?_ _ | refine blk_drew ?_ | refine blk_alloc ?_ _)); exact BK459.out) hb); have n3_ := Aside0.mk (blk_below (g := gb474) (o := .cells #[.int .i64 t462, .int .i64 t463, .slice Ao37 t464.length co37] 24 (0, 0)) (by (with_reducible repeat (first | refine blk_drewN ?_ _ | refine blk_drew ?_ | refine blk_alloc ?_ _)); refine blk_far ?_ NB474_475.out _; (with_reducible repeat (first | refine blk_drewN ?_ _ | refine blk_drew ?_ | refine blk_alloc ?_ _)); refine blk_far ?_ NB474_475.out _; (with_reducible repeat (first | refine blk_drewN ?_ _ | refine blk_drew ?_ | refine blk_alloc ?_ _)); refine blk_far ?_ NB474_475.out _; (with_reducible repeat (first | refine blk_drewN ?_ _ | refine blk_drew ?_ | refine blk_alloc ?_ _)); refine blk_put (cs := #[.int .i64 t462, .int .i64 t463, .slice none 0 0]) ?_ 2 _ rfl; (with_reducible repeat (first | refine blk_drewN ?_ _ | refine blk_drew ?_ | refine blk_alloc ?_ _)); refine blk_put (cs := #[.int .i64 t462, .int .i64 0, .slice none 0 0]) ?_ 1 _ rfl; (with_reducible repeat (first | refine blk_drewN ?_ _ | refine blk_drew ?_ | refine blk_alloc ?_ _)); refine blk_put (cs := #[.int .i64 0, .int .i64 0, .slice none 0 0]) ?_ 0 _ rfl; (with_reducible repeat (first | refine blk_drewN ?_ _ | refine blk_drew ?_ | refine blk_alloc ?_ _)); exact BK474.out) hb); have n4_ := Aside0.mk (blk_below (g := gb475) (o := .cells #[.int .i64 t467, .int .i64 t468, .slice Ao40 t469.length co40] 24 (0, 0)) (by (with_reducible repeat (first | refine blk_drewN ?_ _ | refine blk_drew ?_ | refine blk_alloc ?_ _)); refine blk_put (cs := #[.int .i64 t467, .int .i64 t468, .slice none 0 0]) ?_ 2 _ rfl; (with_reducible repeat (first | refine blk_drewN ?_ _ | refine blk_drew ?_ | refine blk_alloc ?_ _)); refine blk_put (cs := #[.int .i64 t467, .int .i64 0, .slice none 0 0]) ?_ 1 _ rfl; (with_reducible repeat (first | refine blk_drewN ?_ _ | refine blk_drew ?_ | refine blk_alloc ?_ _)); refine blk_put (cs := #[.int .i64 0, .int .i64 0, .slice none 0 0]) ?_ 0 _ rfl; (with_reducible repeat (first | refine blk_drewN ?_ _ | refine blk_drew ?_ | refine blk_alloc ?_ _)); refine blk_far ?_ NB475_474.out _; (with_reducible repeat (first | refine blk_drewN ?_ _ | refine blk_drew ?_ | refine blk_alloc ?_ _)); refine blk_far ?_ NB475_474.out _; (with_reducible repeat (first | refine blk_drewN ?_ _ | refine blk_drew ?_ | refine blk_alloc ?_ _)); refine blk_far ?_ NB475_474.out _; (with_reducible repeat (first | refine blk_drewN ?_ _ | refine blk_drew ?_ | refine blk_alloc ?_ _)); exact BK475.out) hb); have n5_ := Aside0.mk (below_step (by repeat (first | (with_reducible first | exact HB.out | apply below_alloc | apply pw_below_drewN | apply below_drew1 | refine below_set ?_ GE459.out | refine below_set ?_ GE474.out | refine below_set ?_ GE475.out) | exact HB.out)) hb); clear HO466; clear HO471; clear BK459; clear BK474; clear BK475; clear HB; have HO466 := n0_; have HO471 := n1_; have BK459 := n2_; have BK474 := n3_; have BK475 := n4_; have HB := n5_; clear n0_ n1_ n2_ n3_ n4_ n5_; (try clear hb); (try clear hb2); (try clear hk); (try clear hi)))
                  go_meet
                  case rel => exact ⟨_, (true), (by first | rfl | (simp; done) | (simp [*]; done)), H', ⟨by have := HJ4.out; first | omega | exact Nat.le_refl _⟩, ⟨by (with_reducible repeat (first | apply Kd.V_alloc | apply Kd.V_drewN | apply Kd.V_drew)); exact Kd.V_mono HO466.out (fun _ hk => ⟨hk.1.1, ⟨hk.1.2, hk.2⟩⟩)⟩, ⟨by (with_reducible repeat (first | apply Kd.V_alloc | apply Kd.V_drewN | apply Kd.V_drew)); exact Kd.V_mono HO471.out (fun _ hk => ⟨hk.1.1, ⟨hk.1.2, hk.2⟩⟩)⟩, ⟨by (with_reducible repeat (first | refine blk_drewN ?_ _ | refine blk_drew ?_ | refine blk_alloc ?_ _)); exact BK459.out⟩, ⟨by (with_reducible repeat (first | refine blk_drewN ?_ _ | refine blk_drew ?_ | refine blk_alloc ?_ _)); exact BK474.out⟩, ⟨by (with_reducible repeat (first | refine blk_drewN ?_ _ | refine blk_drew ?_ | refine blk_alloc ?_ _)); exact BK475.out⟩, ⟨by repeat (first | (with_reducible first | exact HB.out | apply below_alloc | apply pw_below_drewN | apply below_drew1 | refine below_set ?_ GE459.out | refine below_set ?_ GE474.out | refine below_set ?_ GE475.out) | exact HB.out)⟩⟩
              · rw [if_neg c42] at H
                have c42b0 : (t473 == 0) = false := beq_eq_false_iff_ne.mpr c42
                have c42b1 : (t473 != 0) = true := bne_iff_ne.mpr c42
                (first | rw [c42b0] | (simp only [i64_w, i32_w]; rw [c42b0]) | skip)
                have H' := Aside0.mk H
                clear H
                go_wp2
                go_meet
                case rel => exact ⟨_, (true), (by first | rfl | (simp; done) | (simp [*]; done)), H', ⟨by have := HJ4.out; first | omega | exact Nat.le_refl _⟩, ⟨by (with_reducible repeat (first | apply Kd.V_alloc | apply Kd.V_drewN | apply Kd.V_drew)); exact Kd.V_mono (Kd.V_far (p := ⟨gb475, 2, none⟩) (Kd.V_far (p := ⟨gb475, 1, none⟩) (Kd.V_far (p := ⟨gb475, 0, none⟩) (Kd.V_far (p := ⟨gb474, 2, none⟩) (Kd.V_far (p := ⟨gb474, 1, none⟩) (Kd.V_far (p := ⟨gb474, 0, none⟩) (Kd.V_mono (Kd.V_mono HO466.out (fun k_ hk => (⟨hk, hk.1.2⟩ : _ ∧ k_ ≠ gb474))) (fun k_ hk => (⟨hk, hk.1.2⟩ : _ ∧ k_ ≠ gb475))) (fun _ hk => hk.1.2) (.int .i64 t462)) (fun _ hk => hk.1.2) (.int .i64 t463)) (fun _ hk => hk.1.2) (.slice Ao37 t464.length co37)) (fun _ hk => hk.2) (.int .i64 t467)) (fun _ hk => hk.2) (.int .i64 t468)) (fun _ hk => hk.2) (.slice Ao40 t469.length co40)) (fun _ hk => ⟨hk.1.1.1.1, ⟨hk.1.1.1.2, hk.1.1.2⟩⟩)⟩, ⟨by (with_reducible repeat (first | apply Kd.V_alloc | apply Kd.V_drewN | apply Kd.V_drew)); exact Kd.V_mono (Kd.V_far (p := ⟨gb475, 2, none⟩) (Kd.V_far (p := ⟨gb475, 1, none⟩) (Kd.V_far (p := ⟨gb475, 0, none⟩) (Kd.V_far (p := ⟨gb474, 2, none⟩) (Kd.V_far (p := ⟨gb474, 1, none⟩) (Kd.V_far (p := ⟨gb474, 0, none⟩) (Kd.V_mono (Kd.V_mono HO471.out (fun k_ hk => (⟨hk, hk.1.2⟩ : _ ∧ k_ ≠ gb474))) (fun k_ hk => (⟨hk, hk.1.2⟩ : _ ∧ k_ ≠ gb475))) (fun _ hk => hk.1.2) (.int .i64 t462)) (fun _ hk => hk.1.2) (.int .i64 t463)) (fun _ hk => hk.1.2) (.slice Ao37 t464.length co37)) (fun _ hk => hk.2) (.int .i64 t467)) (fun _ hk => hk.2) (.int .i64 t468)) (fun _ hk => hk.2) (.slice Ao40 t469.length co40)) (fun _ hk => ⟨hk.1.1.1.1, ⟨hk.1.1.1.2, hk.1.1.2⟩⟩)⟩, ⟨by (with_reducible repeat (first | refine blk_drewN ?_ _ | refine blk_drew ?_ | refine blk_alloc ?_ _)); refine blk_far ?_ NB459_475.out _; (with_reducible repeat (first | refine blk_drewN ?_ _ | refine blk_drew ?_ | refine blk_alloc ?_ _)); refine blk_far ?_ NB459_475.out _; (with_reducible repeat (first | refine blk_drewN ?_ _ | refine blk_drew ?_ | refine blk_alloc ?_ _)); refine blk_far ?_ NB459_475.out _; (with_reducible repeat (first | refine blk_drewN ?_ _ | refine blk_drew ?_ | refine blk_alloc ?_ _)); refine blk_far ?_ NB459_474.out _; (with_reducible repeat (first | refine blk_drewN ?_ _ | refine blk_drew ?_ | refine blk_alloc ?_ _)); refine blk_far ?_ NB459_474.out _; (with_reducible repeat (first | refine blk_drewN ?_ _ | refine blk_drew ?_ | refine blk_alloc ?_ _)); refine blk_far ?_ NB459_474.out _; (with_reducible repeat (first | refine blk_drewN ?_ _ | refine blk_drew ?_ | refine blk_alloc ?_ _)); exact BK459.out⟩, ⟨by (with_reducible repeat (first | refine blk_drewN ?_ _ | refine blk_drew ?_ | refine blk_alloc ?_ _)); refine blk_far ?_ NB474_475.out _; (with_reducible repeat (first | refine blk_drewN ?_ _ | refine blk_drew ?_ | refine blk_alloc ?_ _)); refine blk_far ?_ NB474_475.out _; (with_reducible repeat (first | refine blk_drewN ?_ _ | refine blk_drew ?_ | refine blk_alloc ?_ _)); refine blk_far ?_ NB474_475.out _; (with_reducible repeat (first | refine blk_drewN ?_ _ | refine blk_drew ?_ | refine blk_alloc ?_ _)); refine blk_put (cs := #[.int .i64 t462, .int .i64 t463, .slice none 0 0]) ?_ 2 _ rfl; (with_reducible repeat (first | refine blk_drewN ?_ _ | refine blk_drew ?_ | refine blk_alloc ?_ _)); refine blk_put (cs := #[.int .i64 t462, .int .i64 0, .slice none 0 0]) ?_ 1 _ rfl; (with_reducible repeat (first | refine blk_drewN ?_ _ | refine blk_drew ?_ | refine blk_alloc ?_ _)); refine blk_put (cs := #[.int .i64 0, .int .i64 0, .slice none 0 0]) ?_ 0 _ rfl; (with_reducible repeat (first | refine blk_drewN ?_ _ | refine blk_drew ?_ | refine blk_alloc ?_ _)); exact BK474.out⟩, ⟨by (with_reducible repeat (first | refine blk_drewN ?_ _ | refine blk_drew ?_ | refine blk_alloc ?_ _)); refine blk_put (cs := #[.int .i64 t467, .int .i64 t468, .slice none 0 0]) ?_ 2 _ rfl; (with_reducible repeat (first | refine blk_drewN ?_ _ | refine blk_drew ?_ | refine blk_alloc ?_ _)); refine blk_put (cs := #[.int .i64 t467, .int .i64 0, .slice none 0 0]) ?_ 1 _ rfl; (with_reducible repeat (first | refine blk_drewN ?_ _ | refine blk_drew ?_ | refine blk_alloc ?_ _)); refine blk_put (cs := #[.int .i64 0, .int .i64 0, .slice none 0 0]) ?_ 0 _ rfl; (with_reducible repeat (first | refine blk_drewN ?_ _ | refine blk_drew ?_ | refine blk_alloc ?_ _)); refine blk_far ?_ NB475_474.out _; (with_reducible repeat (first | refine blk_drewN ?_ _ | refine blk_drew ?_ | refine blk_alloc ?_ _)); refine blk_far ?_ NB475_474.out _; (with_reducible repeat (first | refine blk_drewN ?_ _ | refine blk_drew ?_ | refine blk_alloc ?_ _)); refine blk_far ?_ NB475_474.out _; (with_reducible repeat (first | refine blk_drewN ?_ _ | refine blk_drew ?_ | refine blk_alloc ?_ _)); exact BK475.out⟩, ⟨by repeat (first | (with_reducible first | exact HB.out | apply below_alloc | apply pw_below_drewN | apply below_drew1 | refine below_set ?_ GE459.out | refine below_set ?_ GE474.out | refine below_set ?_ GE475.out) | exact HB.out)⟩⟩
            case rest =>
              clear HC29
              try clear c1
              try clear c2
              try clear p2
              try clear c3
              try clear c4
              try clear c5
              try clear c6
              try clear p6
              try clear c7
              try clear c8
              try clear c9
              try clear c10
              try clear c11
              try clear c14
              try clear c16
              try clear c16b0
              try clear c16b1
              try clear c17
              try clear c21
              try clear c22
              try clear c25
              try clear c34
              try clear c35
              try clear c38
              try clear c42
              try clear c42b0
              try clear c42b1
              try clear c44
              try clear c46
              try clear c47
              try clear c47b0
              try clear c47b1
              try clear c48
              try clear c48b0
              try clear c49
              try clear c50
              try clear c53
              try clear c59
              try clear c59b0
              try clear c60
              try clear c61
              try clear c64
              try clear p64
              try clear c70
              try clear c70b0
              try clear c70b1
              try clear c71
              try clear c72
              try clear c75
              try clear c81
              try clear c82
              try clear c85
              try clear c91
              try clear c92
              try clear c95
              try clear c101
              try clear c102
              try clear c105
              try clear c108
              try clear c109
              try clear hcz100_0
              try clear hcz100_1
              try clear hcz100_2
              try clear hcz103_0
              try clear hcz103_1
              try clear hcz103_2
              try clear hcz106_0
              try clear hcz106_1
              try clear hcz106_2
              try clear hcz10_0
              try clear hcz10_1
              try clear hcz10_2
              try clear hcz110_0
              try clear hcz110_1
              try clear hcz110_2
              try clear hcz12_0
              try clear hcz12_1
              try clear hcz12_2
              try clear hcz17_0
              try clear hcz17_1
              try clear hcz17_2
              try clear hcz23_0
              try clear hcz23_1
              try clear hcz23_2
              try clear hcz26_0
              try clear hcz26_1
              try clear hcz26_2
              try clear hcz28_0
              try clear hcz28_1
              try clear hcz28_2
              try clear hcz30_0
              try clear hcz30_1
              try clear hcz30_2
              try clear hcz36_0
              try clear hcz36_1
              try clear hcz36_2
              try clear hcz39_0
              try clear hcz39_1
              try clear hcz39_2
              try clear hcz41_0
              try clear hcz41_1
              try clear hcz41_2
              try clear hcz51_0
              try clear hcz51_1
              try clear hcz51_2
              try clear hcz54_0
              try clear hcz54_1
              try clear hcz54_2
              try clear hcz56_0
              try clear hcz56_1
              try clear hcz56_2
              try clear hcz57_0
              try clear hcz57_1
              try clear hcz57_2
              try clear hcz58_0
              try clear hcz58_1
              try clear hcz58_2
              try clear hcz62_0
              try clear hcz62_1
              try clear hcz62_2
              try clear hcz65_0
              try clear hcz65_1
              try clear hcz65_2
              try clear hcz67_0
              try clear hcz67_1
              try clear hcz67_2
              try clear hcz68_0
              try clear hcz68_1
              try clear hcz68_2
              try clear hcz69_0
              try clear hcz69_1
              try clear hcz69_2
              try clear hcz73_0
              try clear hcz73_1
              try clear hcz73_2
              try clear hcz76_0
              try clear hcz76_1
              try clear hcz76_2
              try clear hcz78_0
              try clear hcz78_1
              try clear hcz78_2
              try clear hcz79_0
              try clear hcz79_1
              try clear hcz79_2
              try clear hcz80_0
              try clear hcz80_1
              try clear hcz80_2
              try clear hcz83_0
              try clear hcz83_1
              try clear hcz83_2
              try clear hcz86_0
              try clear hcz86_1
              try clear hcz86_2
              try clear hcz88_0
              try clear hcz88_1
              try clear hcz88_2
              try clear hcz89_0
              try clear hcz89_1
              try clear hcz89_2
              try clear hcz90_0
              try clear hcz90_1
              try clear hcz90_2
              try clear hcz93_0
              try clear hcz93_1
              try clear hcz93_2
              try clear hcz96_0
              try clear hcz96_1
              try clear hcz96_2
              try clear hcz98_0
              try clear hcz98_1
              try clear hcz98_2
              try clear hcz99_0
              try clear hcz99_1
              try clear hcz99_2
              try clear hfz100_0
              try clear hfz100_1
              try clear hfz100_2
              try clear hfz103_0
              try clear hfz103_1
              try clear hfz103_2
              try clear hfz106_0
              try clear hfz106_1
              try clear hfz106_2
              try clear hfz10_0
              try clear hfz10_1
              try clear hfz10_2
              try clear hfz110_0
              try clear hfz110_1
              try clear hfz110_2
              try clear hfz12_0
              try clear hfz12_1
              try clear hfz12_2
              try clear hfz17_0
              try clear hfz17_1
              try clear hfz17_2
              try clear hfz23_0
              try clear hfz23_1
              try clear hfz23_2
              try clear hfz26_0
              try clear hfz26_1
              try clear hfz26_2
              try clear hfz28_0
              try clear hfz28_1
              try clear hfz28_2
              try clear hfz30_0
              try clear hfz30_1
              try clear hfz30_2
              try clear hfz36_0
              try clear hfz36_1
              try clear hfz36_2
              try clear hfz39_0
              try clear hfz39_1
              try clear hfz39_2
              try clear hfz41_0
              try clear hfz41_1
              try clear hfz41_2
              try clear hfz51_0
              try clear hfz51_1
              try clear hfz51_2
              try clear hfz54_0
              try clear hfz54_1
              try clear hfz54_2
              try clear hfz56_0
              try clear hfz56_1
              try clear hfz56_2
              try clear hfz57_0
              try clear hfz57_1
              try clear hfz57_2
              try clear hfz58_0
              try clear hfz58_1
              try clear hfz58_2
              try clear hfz62_0
              try clear hfz62_1
              try clear hfz62_2
              try clear hfz65_0
              try clear hfz65_1
              try clear hfz65_2
              try clear hfz67_0
              try clear hfz67_1
              try clear hfz67_2
              try clear hfz68_0
              try clear hfz68_1
              try clear hfz68_2
              try clear hfz69_0
              try clear hfz69_1
              try clear hfz69_2
              try clear hfz73_0
              try clear hfz73_1
              try clear hfz73_2
              try clear hfz76_0
              try clear hfz76_1
              try clear hfz76_2
              try clear hfz78_0
              try clear hfz78_1
              try clear hfz78_2
              try clear hfz79_0
              try clear hfz79_1
              try clear hfz79_2
              try clear hfz80_0
              try clear hfz80_1
              try clear hfz80_2
              try clear hfz83_0
              try clear hfz83_1
              try clear hfz83_2
              try clear hfz86_0
              try clear hfz86_1
              try clear hfz86_2
              try clear hfz88_0
              try clear hfz88_1
              try clear hfz88_2
              try clear hfz89_0
              try clear hfz89_1
              try clear hfz89_2
              try clear hfz90_0
              try clear hfz90_1
              try clear hfz90_2
              try clear hfz93_0
              try clear hfz93_1
              try clear hfz93_2
              try clear hfz96_0
              try clear hfz96_1
              try clear hfz96_2
              try clear hfz98_0
              try clear hfz98_1
              try clear hfz98_2
              try clear hfz99_0
              try clear hfz99_1
              try clear hfz99_2
              try clear p2
              obtain ⟨kq, x88_28, rfl, HA, HJ28, HO_475002, HO_476002, BK459, BK474, BK475, HB⟩ := hcut
              cases kq with
              | zero => exact absurd HA.out (by simp [dasdlaw20_NodeHalves.j1])
              | succ kj28 =>
                have H := HA.out
                clear HA
                simp only [dasdlaw20_NodeHalves.j1] at H
                by_cases c112 : x88_28 = true
                · subst c112
                  have H1 : (some false) = some r := by rw [if_pos rfl] at H; exact H
                  clear H
                  have H := H1
                  clear H1
                  obtain rfl := Option.some.inj H
                  go_wp2
                  go_ret
                  exact ⟨by first | rfl | (simp [errW_none, errW_some] <;> rfl) | (simp [*, errW_none, errW_some] <;> rfl), by repeat (first | (with_reducible first | exact HB.out | apply below_alloc | apply pw_below_drewN | apply below_drew1 | refine below_set ?_ GE459.out | refine below_set ?_ GE474.out | refine below_set ?_ GE475.out) | exact HB.out)⟩
                · replace c112 := Bool.eq_false_iff.mpr c112
                  subst c112
                  have H1 : (if (Op.bytesLess a1.toList t472.toList) = true then ((dasdlaw20_page.f t462 t463 t464 a1).bind fun t479 => ((dasdlaw20_page.f a0_0 a0_1 l0_2 a1).bind fun t480 => (some (t479 == t480)))) else ((dasdlaw20_page.f t467 t468 t469 a1).bind fun t481 => ((dasdlaw20_page.f a0_0 a0_1 l0_2 a1).bind fun t482 => (some (t481 == t482))))) = some r := by rw [if_neg (show ¬ (false = true) by decide)] at H; exact H
                  clear H
                  have H := H1
                  clear H1
                  by_cases c113 : (Op.bytesLess a1.toList t472.toList) = true
                  · rw [if_pos c113] at H
                    have c113b0 : (Op.bytesLess a1.toList t472.toList) = true := c113
                    clear c113
                    replace H := Option.bind_eq_some_iff.mp H
                    obtain ⟨t479, A1140, H⟩ := H
                    replace H : ((dasdlaw20_page.f a0_0 a0_1 l0_2 a1).bind fun t480 => (some (t479 == t480))) = some r := H
                    have A114 := Aside0.mk A1140
                    clear A1140
                    replace H := Option.bind_eq_some_iff.mp H
                    obtain ⟨t480, A1150, H⟩ := H
                    replace H : (some (t479 == t480)) = some r := H
                    have A115 := Aside0.mk A1150
                    clear A1150
                    obtain rfl := Option.some.inj H
                    have hnb116 := NB475_459.out
                    have hnc116 := NB459_475.out
                    have hnb117 := NB475_474.out
                    have hnc117 := NB474_475.out
                    have hcz118_0 : wc.cell? ⟨gb475, 0, none⟩ = some (.int .i64 t467) := (blk_cell BK475.out 0).trans rfl
                    have hcz118_1 : wc.cell? ⟨gb475, 1, none⟩ = some (.int .i64 t468) := (blk_cell BK475.out 1).trans rfl
                    have hcz118_2 : wc.cell? ⟨gb475, 2, none⟩ = some (.slice Ao40 t469.length co40) := (blk_cell BK475.out 2).trans rfl
                    have hfz118_0 := blk_frozen BK475.out 0
                    have hfz118_1 := blk_frozen BK475.out 1
                    have hfz118_2 := blk_frozen BK475.out 2
                    try go_wp2_with (first | ((with_reducible refine gate_dst (N := 9) rfl ?_); (try (refine gate_guard (by rfl) ?_; dsimp only)); refine box_event ?hg (N := 9) ?hd (cs := #[.int .i64 0, .int .i64 0, .slice none 0 0]) (t := 24) ?hr ?_; (case hd => rfl); (case hg => rfl); (case hr => first | (go_simp; done) | (go_simp; rfl)); intro gb478 hg w119 hbox hb; have n0_ := Aside0.mk (Kd.V_below (Kd.V_elderB (by (with_reducible repeat (first | apply Kd.V_alloc | apply Kd.V_drewN | apply Kd.V_drew)); exact HO_475002.out) gb478 (Nat.le_of_eq hg.symm)) hb); have n1_ := Aside0.mk (Kd.V_below (Kd.V_elderB (by (with_reducible repeat (first | apply Kd.V_alloc | apply Kd.V_drewN | apply Kd.V_drew)); exact HO_476002.out) gb478 (Nat.le_of_eq hg.symm)) hb); have n2_ := Aside0.mk (blk_below (g := gb459) (o := .cells #[.int .i64 a0_0, .int .i64 a0_1, .slice A0_2 l0_2.length c0_2] 24 (0, 0)) (by (with_reducible repeat (first | refine blk_drewN ?_ _ | refine blk_drew ?_ | refine blk_alloc ?_ _)); exact BK459.out) hb); have n3_ := Aside0.mk (blk_below (g := gb474) (o := .cells #[.int .i64 t462, .int .i64 t463, .slice Ao37 t464.length co37] 24 (0, 0)) (by (with_reducible repeat (first | refine blk_drewN ?_ _ | refine blk_drew ?_ | refine blk_alloc ?_ _)); exact BK474.out) hb); have n4_ := Aside0.mk (blk_below (g := gb475) (o := .cells #[.int .i64 t467, .int .i64 t468, .slice Ao40 t469.length co40] 24 (0, 0)) (by (with_reducible repeat (first | refine blk_drewN ?_ _ | refine blk_drew ?_ | refine blk_alloc ?_ _)); exact BK475.out) hb); have n5_ := Aside0.mk (below_step (by repeat (first | (with_reducible first | exact HB.out | apply below_alloc | apply pw_below_drewN | apply below_drew1 | refine below_set ?_ GE459.out | refine below_set ?_ GE474.out | refine below_set ?_ GE475.out) | exact HB.out)) hb); have n6_ := Aside0.mk (hbox); have n7_ := Aside0.mk ((by rw [hg]; exact (below_size (by repeat (first | (with_reducible first | exact HB.out | apply below_alloc | apply pw_below_drewN | apply below_drew1 | refine below_set ?_ GE459.out | refine below_set ?_ GE474.out | refine below_set ?_ GE475.out) | exact HB.out))) : w.heap.size ≤ gb478)); have n8_ := Aside0.mk ((by rw [hg]; exact (below_size (by repeat (first | (with_reducible first | exact HB.out | apply below_alloc | apply pw_below_drewN | apply below_drew1 | refine below_set ?_ GE459.out | refine below_set ?_ GE474.out | refine below_set ?_ GE475.out) | exact HB.out))) : w.heap.size ≤ gb478)); have n9_ := Aside0.mk ((by rw [hg]; exact Nat.ne_of_lt (blk_lt (g := gb459) (o := .cells #[.int .i64 a0_0, .int .i64 a0_1, .slice A0_2 l0_2.length c0_2] 24 (0, 0)) (by (with_reducible repeat (first | refine blk_drewN ?_ _ | refine blk_drew ?_ | refine blk_alloc ?_ _)); exact BK459.out)) : gb459 ≠ gb478)); have n10_ := Aside0.mk ((by rw [hg]; exact Nat.ne_of_gt (blk_lt (g := gb459) (o := .cells #[.int .i64 a0_0, .int .i64 a0_1, .slice A0_2 l0_2.length c0_2] 24 (0, 0)) (by (with_reducible repeat (first | refine blk_drewN ?_ _ | refine blk_drew ?_ | refine blk_alloc ?_ _)); exact BK459.out)) : gb478 ≠ gb459)); have n11_ := Aside0.mk ((by rw [hg]; exact Nat.ne_of_lt (blk_lt (g := gb474) (o := .cells #[.int .i64 t462, .int .i64 t463, .slice Ao37 t464.length co37] 24 (0, 0)) (by (with_reducible repeat (first | refine blk_drewN ?_ _ | refine blk_drew ?_ | refine blk_alloc ?_ _)); exact BK474.out)) : gb474 ≠ gb478)); have n12_ := Aside0.mk ((by rw [hg]; exact Nat.ne_of_gt (blk_lt (g := gb474) (o := .cells #[.int .i64 t462, .int .i64 t463, .slice Ao37 t464.length co37] 24 (0, 0)) (by (with_reducible repeat (first | refine blk_drewN ?_ _ | refine blk_drew ?_ | refine blk_alloc ?_ _)); exact BK474.out)) : gb478 ≠ gb474)); have n13_ := Aside0.mk ((by rw [hg]; exact Nat.ne_of_lt (blk_lt (g := gb475) (o := .cells #[.int .i64 t467, .int .i64 t468, .slice Ao40 t469.length co40] 24 (0, 0)) (by (with_reducible repeat (first | refine blk_drewN ?_ _ | refine blk_drew ?_ | refine blk_alloc ?_ _)); exact BK475.out)) : gb475 ≠ gb478)); have n14_ := Aside0.mk ((by rw [hg]; exact Nat.ne_of_gt (blk_lt (g := gb475) (o := .cells #[.int .i64 t467, .int .i64 t468, .slice Ao40 t469.length co40] 24 (0, 0)) (by (with_reducible repeat (first | refine blk_drewN ?_ _ | refine blk_drew ?_ | refine blk_alloc ?_ _)); exact BK475.out)) : gb478 ≠ gb475)); clear HO_475002; clear HO_476002; clear BK459; clear BK474; clear BK475; clear HB; have HO_475002 := n0_; have HO_476002 := n1_; have BK459 := n2_; have BK474 := n3_; have BK475 := n4_; have HB := n5_; have BK478 := n6_; have GW478 := n7_; have GE478 := n8_; have NB459_478 := n9_; have NB478_459 := n10_; have NB474_478 := n11_; have NB478_474 := n12_; have NB475_478 := n13_; have NB478_475 := n14_; clear n0_ n1_ n2_ n3_ n4_ n5_ n6_ n7_ n8_ n9_ n10_ n11_ n12_ n13_ n14_; clear hb hbox hg; have hnb120 := NB478_459.out; have hnc120 := NB459_478.out; have hnb121 := NB478_474.out; have hnc121 := NB474_478.out; have hnb122 := NB478_475.out; have hnc122 := NB475_478.out; have hcz123_0 : w119.cell? ⟨gb478, 0, none⟩ = some (.int .i64 0) := (blk_cell BK478.out 0).trans rfl; have hcz123_1 : w119.cell? ⟨gb478, 1, none⟩ = some (.int .i64 0) := (blk_cell BK478.out 1).trans rfl; have hcz123_2 : w119.cell? ⟨gb478, 2, none⟩ = some (.slice none 0 0) := (blk_cell BK478.out 2).trans rfl; have hfz123_0 := blk_frozen BK478.out 0; have hfz123_1 := blk_frozen BK478.out 1; have hfz123_2 := blk_frozen BK478.out 2; have hnb124 := NB474_459.out; have hnc124 := NB459_474.out; have hcz125_0 : w119.cell? ⟨gb474, 0, none⟩ = some (.int .i64 t462) := (blk_cell BK474.out 0).trans rfl; have hcz125_1 : w119.cell? ⟨gb474, 1, none⟩ = some (.int .i64 t463) := (blk_cell BK474.out 1).trans rfl; have hcz125_2 : w119.cell? ⟨gb474, 2, none⟩ = some (.slice Ao37 t464.length co37) := (blk_cell BK474.out 2).trans rfl; have hfz125_0 := blk_frozen BK474.out 0; have hfz125_1 := blk_frozen BK474.out 1; have hfz125_2 := blk_frozen BK474.out 2))
                    have n0_ : Aside0 (Kd.V k32 32 ((((((w119.setCell ⟨gb478, 0, none⟩ (.int .i64 t467)).setCell ⟨gb478, 1, none⟩ (.int .i64 t468)).setCell ⟨gb478, 2, none⟩ (.slice Ao40 t469.length co40)).setCell ⟨gb478, 0, none⟩ (.int .i64 t462)).setCell ⟨gb478, 1, none⟩ (.int .i64 t463)).setCell ⟨gb478, 2, none⟩ (.slice Ao37 t464.length co37)) w.heap.size (fun k_ => k_ ≠ gb459 ∧ k_ ≠ gb474 ∧ k_ ≠ gb475 ∧ k_ ≠ gb478) (.slice Ao37 t464.length co37) t464) := ⟨by (with_reducible repeat (first | apply Kd.V_alloc | apply Kd.V_drewN | apply Kd.V_drew)); exact Kd.V_mono (Kd.V_far (p := ⟨gb478, 2, none⟩) (Kd.V_far (p := ⟨gb478, 1, none⟩) (Kd.V_far (p := ⟨gb478, 0, none⟩) (Kd.V_far (p := ⟨gb478, 2, none⟩) (Kd.V_far (p := ⟨gb478, 1, none⟩) (Kd.V_far (p := ⟨gb478, 0, none⟩) (Kd.V_mono HO_475002.out (fun k_ hk => (⟨hk, hk.2⟩ : _ ∧ k_ ≠ gb478))) (fun _ hk => hk.2) (.int .i64 t467)) (fun _ hk => hk.2) (.int .i64 t468)) (fun _ hk => hk.2) (.slice Ao40 t469.length co40)) (fun _ hk => hk.2) (.int .i64 t462)) (fun _ hk => hk.2) (.int .i64 t463)) (fun _ hk => hk.2) (.slice Ao37 t464.length co37)) (fun _ hk => ⟨hk.1.1.1, ⟨hk.1.1.2.1, ⟨hk.1.1.2.2, hk.1.2⟩⟩⟩)⟩
                    have n1_ : Aside0 (Kd.V k32 32 ((((((w119.setCell ⟨gb478, 0, none⟩ (.int .i64 t467)).setCell ⟨gb478, 1, none⟩ (.int .i64 t468)).setCell ⟨gb478, 2, none⟩ (.slice Ao40 t469.length co40)).setCell ⟨gb478, 0, none⟩ (.int .i64 t462)).setCell ⟨gb478, 1, none⟩ (.int .i64 t463)).setCell ⟨gb478, 2, none⟩ (.slice Ao37 t464.length co37)) w.heap.size (fun k_ => k_ ≠ gb459 ∧ k_ ≠ gb474 ∧ k_ ≠ gb475 ∧ k_ ≠ gb478) (.slice Ao40 t469.length co40) t469) := ⟨by (with_reducible repeat (first | apply Kd.V_alloc | apply Kd.V_drewN | apply Kd.V_drew)); exact Kd.V_mono (Kd.V_far (p := ⟨gb478, 2, none⟩) (Kd.V_far (p := ⟨gb478, 1, none⟩) (Kd.V_far (p := ⟨gb478, 0, none⟩) (Kd.V_far (p := ⟨gb478, 2, none⟩) (Kd.V_far (p := ⟨gb478, 1, none⟩) (Kd.V_far (p := ⟨gb478, 0, none⟩) (Kd.V_mono HO_476002.out (fun k_ hk => (⟨hk, hk.2⟩ : _ ∧ k_ ≠ gb478))) (fun _ hk => hk.2) (.int .i64 t467)) (fun _ hk => hk.2) (.int .i64 t468)) (fun _ hk => hk.2) (.slice Ao40 t469.length co40)) (fun _ hk => hk.2) (.int .i64 t462)) (fun _ hk => hk.2) (.int .i64 t463)) (fun _ hk => hk.2) (.slice Ao37 t464.length co37)) (fun _ hk => ⟨hk.1.1.1, ⟨hk.1.1.2.1, ⟨hk.1.1.2.2, hk.1.2⟩⟩⟩)⟩
                    have n2_ : Aside0 (((((((w119.setCell ⟨gb478, 0, none⟩ (.int .i64 t467)).setCell ⟨gb478, 1, none⟩ (.int .i64 t468)).setCell ⟨gb478, 2, none⟩ (.slice Ao40 t469.length co40)).setCell ⟨gb478, 0, none⟩ (.int .i64 t462)).setCell ⟨gb478, 1, none⟩ (.int .i64 t463)).setCell ⟨gb478, 2, none⟩ (.slice Ao37 t464.length co37)).heap[gb459]? = some (.cells #[.int .i64 a0_0, .int .i64 a0_1, .slice A0_2 l0_2.length c0_2] 24 (0, 0))) := ⟨by (with_reducible repeat (first | refine blk_drewN ?_ _ | refine blk_drew ?_ | refine blk_alloc ?_ _)); refine blk_far ?_ NB459_478.out _; (with_reducible repeat (first | refine blk_drewN ?_ _ | refine blk_drew ?_ | refine blk_alloc ?_ _)); refine blk_far ?_ NB459_478.out _; (with_reducible repeat (first | refine blk_drewN ?_ _ | refine blk_drew ?_ | refine blk_alloc ?_ _)); refine blk_far ?_ NB459_478.out _; (with_reducible repeat (first | refine blk_drewN ?_ _ | refine blk_drew ?_ | refine blk_alloc ?_ _)); refine blk_far ?_ NB459_478.out _; (with_reducible repeat (first | refine blk_drewN ?_ _ | refine blk_drew ?_ | refine blk_alloc ?_ _)); refine blk_far ?_ NB459_478.out _; (with_reducible repeat (first | refine blk_drewN ?_ _ | refine blk_drew ?_ | refine blk_alloc ?_ _)); refine blk_far ?_ NB459_478.out _; (with_reducible repeat (first | refine blk_drewN ?_ _ | refine blk_drew ?_ | refine blk_alloc ?_ _)); exact BK459.out⟩
                    have n3_ : Aside0 (((((((w119.setCell ⟨gb478, 0, none⟩ (.int .i64 t467)).setCell ⟨gb478, 1, none⟩ (.int .i64 t468)).setCell ⟨gb478, 2, none⟩ (.slice Ao40 t469.length co40)).setCell ⟨gb478, 0, none⟩ (.int .i64 t462)).setCell ⟨gb478, 1, none⟩ (.int .i64 t463)).setCell ⟨gb478, 2, none⟩ (.slice Ao37 t464.length co37)).heap[gb474]? = some (.cells #[.int .i64 t462, .int .i64 t463, .slice Ao37 t464.length co37] 24 (0, 0))) := ⟨by (with_reducible repeat (first | refine blk_drewN ?_ _ | refine blk_drew ?_ | refine blk_alloc ?_ _)); refine blk_far ?_ NB474_478.out _; (with_reducible repeat (first | refine blk_drewN ?_ _ | refine blk_drew ?_ | refine blk_alloc ?_ _)); refine blk_far ?_ NB474_478.out _; (with_reducible repeat (first | refine blk_drewN ?_ _ | refine blk_drew ?_ | refine blk_alloc ?_ _)); refine blk_far ?_ NB474_478.out _; (with_reducible repeat (first | refine blk_drewN ?_ _ | refine blk_drew ?_ | refine blk_alloc ?_ _)); refine blk_far ?_ NB474_478.out _; (with_reducible repeat (first | refine blk_drewN ?_ _ | refine blk_drew ?_ | refine blk_alloc ?_ _)); refine blk_far ?_ NB474_478.out _; (with_reducible repeat (first | refine blk_drewN ?_ _ | refine blk_drew ?_ | refine blk_alloc ?_ _)); refine blk_far ?_ NB474_478.out _; (with_reducible repeat (first | refine blk_drewN ?_ _ | refine blk_drew ?_ | refine blk_alloc ?_ _)); exact BK474.out⟩
                    have n4_ : Aside0 (((((((w119.setCell ⟨gb478, 0, none⟩ (.int .i64 t467)).setCell ⟨gb478, 1, none⟩ (.int .i64 t468)).setCell ⟨gb478, 2, none⟩ (.slice Ao40 t469.length co40)).setCell ⟨gb478, 0, none⟩ (.int .i64 t462)).setCell ⟨gb478, 1, none⟩ (.int .i64 t463)).setCell ⟨gb478, 2, none⟩ (.slice Ao37 t464.length co37)).heap[gb475]? = some (.cells #[.int .i64 t467, .int .i64 t468, .slice Ao40 t469.length co40] 24 (0, 0))) := ⟨by (with_reducible repeat (first | refine blk_drewN ?_ _ | refine blk_drew ?_ | refine blk_alloc ?_ _)); refine blk_far ?_ NB475_478.out _; (with_reducible repeat (first | refine blk_drewN ?_ _ | refine blk_drew ?_ | refine blk_alloc ?_ _)); refine blk_far ?_ NB475_478.out _; (with_reducible repeat (first | refine blk_drewN ?_ _ | refine blk_drew ?_ | refine blk_alloc ?_ _)); refine blk_far ?_ NB475_478.out _; (with_reducible repeat (first | refine blk_drewN ?_ _ | refine blk_drew ?_ | refine blk_alloc ?_ _)); refine blk_far ?_ NB475_478.out _; (with_reducible repeat (first | refine blk_drewN ?_ _ | refine blk_drew ?_ | refine blk_alloc ?_ _)); refine blk_far ?_ NB475_478.out _; (with_reducible repeat (first | refine blk_drewN ?_ _ | refine blk_drew ?_ | refine blk_alloc ?_ _)); refine blk_far ?_ NB475_478.out _; (with_reducible repeat (first | refine blk_drewN ?_ _ | refine blk_drew ?_ | refine blk_alloc ?_ _)); exact BK475.out⟩
                    have n5_ : Aside0 (((((((w119.setCell ⟨gb478, 0, none⟩ (.int .i64 t467)).setCell ⟨gb478, 1, none⟩ (.int .i64 t468)).setCell ⟨gb478, 2, none⟩ (.slice Ao40 t469.length co40)).setCell ⟨gb478, 0, none⟩ (.int .i64 t462)).setCell ⟨gb478, 1, none⟩ (.int .i64 t463)).setCell ⟨gb478, 2, none⟩ (.slice Ao37 t464.length co37)).heap[gb478]? = some (.cells #[.int .i64 t462, .int .i64 t463, .slice Ao37 t464.length co37] 24 (0, 0))) := ⟨by (with_reducible repeat (first | refine blk_drewN ?_ _ | refine blk_drew ?_ | refine blk_alloc ?_ _)); refine blk_put (cs := #[.int .i64 t462, .int .i64 t463, .slice Ao40 t469.length co40]) ?_ 2 _ rfl; (with_reducible repeat (first | refine blk_drewN ?_ _ | refine blk_drew ?_ | refine blk_alloc ?_ _)); refine blk_put (cs := #[.int .i64 t462, .int .i64 t468, .slice Ao40 t469.length co40]) ?_ 1 _ rfl; (with_reducible repeat (first | refine blk_drewN ?_ _ | refine blk_drew ?_ | refine blk_alloc ?_ _)); refine blk_put (cs := #[.int .i64 t467, .int .i64 t468, .slice Ao40 t469.length co40]) ?_ 0 _ rfl; (with_reducible repeat (first | refine blk_drewN ?_ _ | refine blk_drew ?_ | refine blk_alloc ?_ _)); refine blk_put (cs := #[.int .i64 t467, .int .i64 t468, .slice none 0 0]) ?_ 2 _ rfl; (with_reducible repeat (first | refine blk_drewN ?_ _ | refine blk_drew ?_ | refine blk_alloc ?_ _)); refine blk_put (cs := #[.int .i64 t467, .int .i64 0, .slice none 0 0]) ?_ 1 _ rfl; (with_reducible repeat (first | refine blk_drewN ?_ _ | refine blk_drew ?_ | refine blk_alloc ?_ _)); refine blk_put (cs := #[.int .i64 0, .int .i64 0, .slice none 0 0]) ?_ 0 _ rfl; (with_reducible repeat (first | refine blk_drewN ?_ _ | refine blk_drew ?_ | refine blk_alloc ?_ _)); exact BK478.out⟩
                    have n6_ : Aside0 (Below w.heap.size w ((((((w119.setCell ⟨gb478, 0, none⟩ (.int .i64 t467)).setCell ⟨gb478, 1, none⟩ (.int .i64 t468)).setCell ⟨gb478, 2, none⟩ (.slice Ao40 t469.length co40)).setCell ⟨gb478, 0, none⟩ (.int .i64 t462)).setCell ⟨gb478, 1, none⟩ (.int .i64 t463)).setCell ⟨gb478, 2, none⟩ (.slice Ao37 t464.length co37))) := ⟨by repeat (first | (with_reducible first | exact HB.out | apply below_alloc | apply pw_below_drewN | apply below_drew1 | refine below_set ?_ GE459.out | refine below_set ?_ GE474.out | refine below_set ?_ GE475.out | refine below_set ?_ GE478.out) | exact HB.out)⟩
                    (try clear HO_475002)
                    (try clear HO_476002)
                    (try clear BK459)
                    (try clear BK474)
                    (try clear BK475)
                    (try clear BK478)
                    (try clear HB)
                    generalize ((((((w119.setCell ⟨gb478, 0, none⟩ (.int .i64 t467)).setCell ⟨gb478, 1, none⟩ (.int .i64 t468)).setCell ⟨gb478, 2, none⟩ (.slice Ao40 t469.length co40)).setCell ⟨gb478, 0, none⟩ (.int .i64 t462)).setCell ⟨gb478, 1, none⟩ (.int .i64 t463)).setCell ⟨gb478, 2, none⟩ (.slice Ao37 t464.length co37)) = w126 at n0_ n1_ n2_ n3_ n4_ n5_ n6_ ⊢
                    have HO_475002 := n0_
                    have HO_476002 := n1_
                    have BK459 := n2_
                    have BK474 := n3_
                    have BK475 := n4_
                    have BK478 := n5_
                    have HB := n6_
                    clear n0_ n1_ n2_ n3_ n4_ n5_ n6_
                    have n0_ := Aside0.mk (Kd.V_drew HO_475002.out)
                    have n1_ := Aside0.mk (Kd.V_drew HO_476002.out)
                    have n2_ := Aside0.mk (blk_drew BK459.out)
                    have n3_ := Aside0.mk (blk_drew BK474.out)
                    have n4_ := Aside0.mk (blk_drew BK475.out)
                    have n5_ := Aside0.mk (blk_drew BK478.out)
                    have n6_ := Aside0.mk (below_drew1 HB.out)
                    clear HO_475002
                    clear HO_476002
                    clear BK459
                    clear BK474
                    clear BK475
                    clear BK478
                    clear HB
                    have HO_475002 := n0_
                    have HO_476002 := n1_
                    have BK459 := n2_
                    have BK474 := n3_
                    have BK475 := n4_
                    have BK478 := n5_
                    have HB := n6_
                    clear n0_ n1_ n2_ n3_ n4_ n5_ n6_
                    refine start_ (n := 8) (S := fun w' => w'.cell? ⟨gb478, 0, none⟩ = some (.int .i64 t462) ∧ w'.cell? ⟨gb478, 1, none⟩ = some (.int .i64 t463) ∧ w'.cell? ⟨gb478, 2, none⟩ = some (.slice Ao37 t464.length co37) ∧ w'.cell? ⟨gb459, 0, none⟩ = some (.int .i64 a0_0) ∧ w'.cell? ⟨gb459, 1, none⟩ = some (.int .i64 a0_1) ∧ w'.cell? ⟨gb459, 2, none⟩ = some (.slice A0_2 l0_2.length c0_2)) (ds := []) #[false, false, false, false, false, false, false, false] (by kernel_rfl) rfl rfl ⟨(blk_cell BK478.out 0).trans rfl, (blk_cell BK478.out 1).trans rfl, (blk_cell BK478.out 2).trans rfl, (blk_cell BK459.out 0).trans rfl, (blk_cell BK459.out 1).trans rfl, (blk_cell BK459.out 2).trans rfl⟩ (fun hHeld => ?_); refine with_tabW dasdlaw20_NodeHalves.tab13 dasdlaw20_NodeHalves.bits13 (fun HT_ HW_ => ?_)
                    generalize w126.drew = w127 at HO_475002 HO_476002 BK459 BK474 BK475 BK478 HB hHeld ⊢
                    refine pure_ (i := 1) (N := some 95) (v := ?_) (a' := ?_) #[false, true, false, false, false, false, false, false] rfl rfl (any_of HT_.out (by kernel_rfl)) (fun _ _ _ h => h) (Or.inl ⟨by rfl, ?_⟩) ?_ ?_
                    rotate_left
                    · intro w'
                      go_simp
                      with_reducible rfl
                    rotate_left
                    · simp only [Act.put, List.setIfInBounds_toArray, List.set_cons_zero, List.set_cons_succ, i64_w, i32_w]
                      rfl
                    refine pure_ (i := 4) (N := some 98) (v := ?_) (a' := ?_) #[false, true, false, false, true, false, false, false] rfl rfl (any_of HT_.out (by kernel_rfl)) (fun _ _ _ h => h) (Or.inl ⟨by rfl, ?_⟩) ?_ ?_
                    rotate_left
                    · intro w'
                      go_simp
                      with_reducible rfl
                    rotate_left
                    · simp only [Act.put, List.setIfInBounds_toArray, List.set_cons_zero, List.set_cons_succ, i64_w, i32_w]
                      rfl
                    refine take_ (i := 0) (N := some 94) (v := ?_) (a' := ?_) #[true, true, false, false, true, false, false, false] rfl rfl (take_ofW HT_.out HW_.out (by kernel_rfl)) (fun _ _ _ h => h) (Or.inl ⟨by rfl, ?_⟩) hHeld ?_ ?_
                    rotate_left
                    · rintro w' ⟨s0, s1, s2, s3, s4, s5⟩
                      go_simp
                      with_reducible rfl
                    rotate_left
                    · simp only [Act.put, List.setIfInBounds_toArray, List.set_cons_zero, List.set_cons_succ, i64_w, i32_w]
                      rfl
                    refine take_ (i := 3) (N := some 97) (v := ?_) (a' := ?_) #[true, true, false, true, true, false, false, false] rfl rfl (take_ofW HT_.out HW_.out (by kernel_rfl)) (fun _ _ _ h => h) (Or.inl ⟨by rfl, ?_⟩) hHeld ?_ ?_
                    rotate_left
                    · rintro w' ⟨s0, s1, s2, s3, s4, s5⟩
                      go_simp
                      with_reducible rfl
                    rotate_left
                    · simp only [Act.put, List.setIfInBounds_toArray, List.set_cons_zero, List.set_cons_succ, i64_w, i32_w]
                      rfl
                    refine one_ (i := 2) (N := some 96) #[true, true, true, true, true, false, false, false] rfl rfl (one_of HT_.out (by kernel_rfl)) (by decide) (fun K hK => ?_)
                    refine goes_ Try.func14 (by kernel_rfl) rfl #[.agg #[.int .i64 t462, .int .i64 t463, .slice Ao37 t464.length co37], .string a1] (by rfl) rfl rfl (by (try simp only [List.map_toArray, List.map_cons, List.map_nil]); first | done | rfl | (simp only [List.length_drop, List.length_take]; rfl)) ?_
                    with_reducible refine (dasdlaw20_page.calls t462 t463 _ _ t464 a1 t479 _ ?side1 ?side2 A114.out).mono ?_
                    (case side1 => repeat (first | exact (Kd.V_reads' HO_475002.out).2.2 | (with_reducible refine Kd.C_alloc ?_ _) | (with_reducible refine Kd.C_drewN ?_ _) | (with_reducible refine Kd.C_drew ?_)))
                    (case side2 => exact (Kd.V_reads' HO_475002.out).2.1)
                    rintro e w128 ⟨rfl, hb⟩
                    refine ⟨_, rfl, ?_⟩
                    have n0_ := Aside0.mk (Kd.V_below (by (with_reducible repeat (first | apply Kd.V_alloc | apply Kd.V_drewN | apply Kd.V_drew)); exact HO_475002.out) hb)
                    have n1_ := Aside0.mk (Kd.V_below (by (with_reducible repeat (first | apply Kd.V_alloc | apply Kd.V_drewN | apply Kd.V_drew)); exact HO_476002.out) hb)
                    have n2_ := Aside0.mk (blk_below (g := gb459) (o := .cells #[.int .i64 a0_0, .int .i64 a0_1, .slice A0_2 l0_2.length c0_2] 24 (0, 0)) (by (with_reducible repeat (first | refine blk_drewN ?_ _ | refine blk_drew ?_ | refine blk_alloc ?_ _)); exact BK459.out) hb)
                    have n3_ := Aside0.mk (blk_below (g := gb474) (o := .cells #[.int .i64 t462, .int .i64 t463, .slice Ao37 t464.length co37] 24 (0, 0)) (by (with_reducible repeat (first | refine blk_drewN ?_ _ | refine blk_drew ?_ | refine blk_alloc ?_ _)); exact BK474.out) hb)
                    have n4_ := Aside0.mk (blk_below (g := gb475) (o := .cells #[.int .i64 t467, .int .i64 t468, .slice Ao40 t469.length co40] 24 (0, 0)) (by (with_reducible repeat (first | refine blk_drewN ?_ _ | refine blk_drew ?_ | refine blk_alloc ?_ _)); exact BK475.out) hb)
                    have n5_ := Aside0.mk (blk_below (g := gb478) (o := .cells #[.int .i64 t462, .int .i64 t463, .slice Ao37 t464.length co37] 24 (0, 0)) (by (with_reducible repeat (first | refine blk_drewN ?_ _ | refine blk_drew ?_ | refine blk_alloc ?_ _)); exact BK478.out) hb)
                    have n6_ := Aside0.mk (below_step (by repeat (first | (with_reducible first | exact HB.out | apply below_alloc | apply pw_below_drewN | apply below_drew1 | refine below_set ?_ GE459.out | refine below_set ?_ GE474.out | refine below_set ?_ GE475.out | refine below_set ?_ GE478.out) | exact HB.out)) hb)
                    clear HO_475002
                    clear HO_476002
                    clear BK459
                    clear BK474
                    clear BK475
                    clear BK478
                    clear HB
                    have HO_475002 := n0_
                    have HO_476002 := n1_
                    have BK459 := n2_
                    have BK474 := n3_
                    have BK475 := n4_
                    have BK478 := n5_
                    have HB := n6_
                    clear n0_ n1_ n2_ n3_ n4_ n5_ n6_
                    (try clear hb)
                    (try clear hb2)
                    (try clear hk)
                    (try clear hi)
                    refine hK.out _ _ ⟨(blk_cell BK478.out 0).trans rfl, (blk_cell BK478.out 1).trans rfl, (blk_cell BK478.out 2).trans rfl, (blk_cell BK459.out 0).trans rfl, (blk_cell BK459.out 1).trans rfl, (blk_cell BK459.out 2).trans rfl⟩ (fun hHeld => ?_)
                    clear hK K
                    refine norm_ (a' := ?_) ?_ ?_
                    rotate_left
                    · show Act.put _ (some 96) _ = _
                      simp only [Act.put, List.setIfInBounds_toArray, List.set_cons_zero, List.set_cons_succ, i64_w, i32_w]
                      rfl
                    refine one_ (i := 5) (N := some 99) #[true, true, true, true, true, true, false, false] rfl rfl (one_of HT_.out (by kernel_rfl)) (by decide) (fun K hK => ?_)
                    refine goes_ Try.func14 (by kernel_rfl) rfl #[.agg #[.int .i64 a0_0, .int .i64 a0_1, .slice A0_2 l0_2.length c0_2], .string a1] (by rfl) rfl rfl (by (try simp only [List.map_toArray, List.map_cons, List.map_nil]); first | done | rfl | (simp only [List.length_drop, List.length_take]; rfl)) ?_
                    with_reducible refine (dasdlaw20_page.calls a0_0 a0_1 _ _ l0_2 a1 t480 _ ?side1 ?side2 A115.out).mono ?_
                    (case side1 => repeat (first | exact (Kd.C_below HR0_2.out HB.out) | (with_reducible refine Kd.C_alloc ?_ _) | (with_reducible refine Kd.C_drewN ?_ _) | (with_reducible refine Kd.C_drew ?_)))
                    (case side2 => exact HC0_2.out)
                    rintro e w129 ⟨rfl, hb⟩
                    refine ⟨_, rfl, ?_⟩
                    have n0_ := Aside0.mk (Kd.V_below (by (with_reducible repeat (first | apply Kd.V_alloc | apply Kd.V_drewN | apply Kd.V_drew)); exact HO_475002.out) hb)
                    have n1_ := Aside0.mk (Kd.V_below (by (with_reducible repeat (first | apply Kd.V_alloc | apply Kd.V_drewN | apply Kd.V_drew)); exact HO_476002.out) hb)
                    have n2_ := Aside0.mk (blk_below (g := gb459) (o := .cells #[.int .i64 a0_0, .int .i64 a0_1, .slice A0_2 l0_2.length c0_2] 24 (0, 0)) (by (with_reducible repeat (first | refine blk_drewN ?_ _ | refine blk_drew ?_ | refine blk_alloc ?_ _)); exact BK459.out) hb)
                    have n3_ := Aside0.mk (blk_below (g := gb474) (o := .cells #[.int .i64 t462, .int .i64 t463, .slice Ao37 t464.length co37] 24 (0, 0)) (by (with_reducible repeat (first | refine blk_drewN ?_ _ | refine blk_drew ?_ | refine blk_alloc ?_ _)); exact BK474.out) hb)
                    have n4_ := Aside0.mk (blk_below (g := gb475) (o := .cells #[.int .i64 t467, .int .i64 t468, .slice Ao40 t469.length co40] 24 (0, 0)) (by (with_reducible repeat (first | refine blk_drewN ?_ _ | refine blk_drew ?_ | refine blk_alloc ?_ _)); exact BK475.out) hb)
                    have n5_ := Aside0.mk (blk_below (g := gb478) (o := .cells #[.int .i64 t462, .int .i64 t463, .slice Ao37 t464.length co37] 24 (0, 0)) (by (with_reducible repeat (first | refine blk_drewN ?_ _ | refine blk_drew ?_ | refine blk_alloc ?_ _)); exact BK478.out) hb)
                    have n6_ := Aside0.mk (below_step (by repeat (first | (with_reducible first | exact HB.out | apply below_alloc | apply pw_below_drewN | apply below_drew1 | refine below_set ?_ GE459.out | refine below_set ?_ GE474.out | refine below_set ?_ GE475.out | refine below_set ?_ GE478.out) | exact HB.out)) hb)
                    clear HO_475002
                    clear HO_476002
                    clear BK459
                    clear BK474
                    clear BK475
                    clear BK478
                    clear HB
                    have HO_475002 := n0_
                    have HO_476002 := n1_
                    have BK459 := n2_
                    have BK474 := n3_
                    have BK475 := n4_
                    have BK478 := n5_
                    have HB := n6_
                    clear n0_ n1_ n2_ n3_ n4_ n5_ n6_
                    (try clear hb)
                    (try clear hb2)
                    (try clear hk)
                    (try clear hi)
                    refine hK.out _ _ ⟨(blk_cell BK478.out 0).trans rfl, (blk_cell BK478.out 1).trans rfl, (blk_cell BK478.out 2).trans rfl, (blk_cell BK459.out 0).trans rfl, (blk_cell BK459.out 1).trans rfl, (blk_cell BK459.out 2).trans rfl⟩ (fun hHeld => ?_)
                    clear hK K
                    refine norm_ (a' := ?_) ?_ ?_
                    rotate_left
                    · show Act.put _ (some 99) _ = _
                      simp only [Act.put, List.setIfInBounds_toArray, List.set_cons_zero, List.set_cons_succ, i64_w, i32_w]
                      rfl
                    refine pure_ (i := 6) (N := some 100) (v := ?_) (a' := ?_) #[true, true, true, true, true, true, true, false] rfl rfl (any_of HT_.out (by kernel_rfl)) (fun _ _ _ h => h) (Or.inl ⟨by rfl, ?_⟩) ?_ ?_
                    rotate_left
                    · intro w'
                      go_simp
                      with_reducible rfl
                    rotate_left
                    · simp only [Act.put, List.setIfInBounds_toArray, List.set_cons_zero, List.set_cons_succ, i64_w, i32_w]
                      rfl
                    refine pure_ (i := 7) (N := some 4) (v := ?_) (a' := ?_) #[true, true, true, true, true, true, true, true] rfl rfl (any_of HT_.out (by kernel_rfl)) (fun _ _ _ h => h) (Or.inl ⟨by rfl, ?_⟩) ?_ ?_
                    rotate_left
                    · intro w'
                      go_simp
                      with_reducible rfl
                    rotate_left
                    · simp only [Act.put, List.setIfInBounds_toArray, List.set_cons_zero, List.set_cons_succ, i64_w, i32_w]
                      rfl
                    refine done_ (done_of HT_.out (by kernel_rfl)) ?_
                    try go_wp2
                    go_ret
                    exact ⟨by first | rfl | (simp [errW_none, errW_some] <;> rfl) | (simp [*, errW_none, errW_some] <;> rfl), by repeat (first | (with_reducible first | exact HB.out | apply below_alloc | apply pw_below_drewN | apply below_drew1 | refine below_set ?_ GE459.out | refine below_set ?_ GE474.out | refine below_set ?_ GE475.out | refine below_set ?_ GE478.out) | exact HB.out)⟩
                  · rw [if_neg c113] at H
                    have c113b0 : (Op.bytesLess a1.toList t472.toList) = false := by simpa using c113
                    clear c113
                    replace H := Option.bind_eq_some_iff.mp H
                    obtain ⟨t481, A1300, H⟩ := H
                    replace H : ((dasdlaw20_page.f a0_0 a0_1 l0_2 a1).bind fun t482 => (some (t481 == t482))) = some r := H
                    have A130 := Aside0.mk A1300
                    clear A1300
                    replace H := Option.bind_eq_some_iff.mp H
                    obtain ⟨t482, A1310, H⟩ := H
                    replace H : (some (t481 == t482)) = some r := H
                    have A131 := Aside0.mk A1310
                    clear A1310
                    obtain rfl := Option.some.inj H
                    have hnb132 := NB475_459.out
                    have hnc132 := NB459_475.out
                    have hnb133 := NB475_474.out
                    have hnc133 := NB474_475.out
                    have hcz134_0 : wc.cell? ⟨gb475, 0, none⟩ = some (.int .i64 t467) := (blk_cell BK475.out 0).trans rfl
                    have hcz134_1 : wc.cell? ⟨gb475, 1, none⟩ = some (.int .i64 t468) := (blk_cell BK475.out 1).trans rfl
                    have hcz134_2 : wc.cell? ⟨gb475, 2, none⟩ = some (.slice Ao40 t469.length co40) := (blk_cell BK475.out 2).trans rfl
                    have hfz134_0 := blk_frozen BK475.out 0
                    have hfz134_1 := blk_frozen BK475.out 1
                    have hfz134_2 := blk_frozen BK475.out 2
                    try go_wp2_with (first | ((with_reducible refine gate_dst (N := 9) rfl ?_); (try (refine gate_guard (by rfl) ?_; dsimp only)); refine box_event ?hg (N := 9) ?hd (cs := #[.int .i64 0, .int .i64 0, .slice none 0 0]) (t := 24) ?hr ?_; (case hd => rfl); (case hg => rfl); (case hr => first | (go_simp; done) | (go_simp; rfl)); intro gb478 hg w135 hbox hb; have n0_ := Aside0.mk (Kd.V_below (Kd.V_elderB (by (with_reducible repeat (first | apply Kd.V_alloc | apply Kd.V_drewN | apply Kd.V_drew)); exact HO_475002.out) gb478 (Nat.le_of_eq hg.symm)) hb); have n1_ := Aside0.mk (Kd.V_below (Kd.V_elderB (by (with_reducible repeat (first | apply Kd.V_alloc | apply Kd.V_drewN | apply Kd.V_drew)); exact HO_476002.out) gb478 (Nat.le_of_eq hg.symm)) hb); have n2_ := Aside0.mk (blk_below (g := gb459) (o := .cells #[.int .i64 a0_0, .int .i64 a0_1, .slice A0_2 l0_2.length c0_2] 24 (0, 0)) (by (with_reducible repeat (first | refine blk_drewN ?_ _ | refine blk_drew ?_ | refine blk_alloc ?_ _)); exact BK459.out) hb); have n3_ := Aside0.mk (blk_below (g := gb474) (o := .cells #[.int .i64 t462, .int .i64 t463, .slice Ao37 t464.length co37] 24 (0, 0)) (by (with_reducible repeat (first | refine blk_drewN ?_ _ | refine blk_drew ?_ | refine blk_alloc ?_ _)); exact BK474.out) hb); have n4_ := Aside0.mk (blk_below (g := gb475) (o := .cells #[.int .i64 t467, .int .i64 t468, .slice Ao40 t469.length co40] 24 (0, 0)) (by (with_reducible repeat (first | refine blk_drewN ?_ _ | refine blk_drew ?_ | refine blk_alloc ?_ _)); exact BK475.out) hb); have n5_ := Aside0.mk (below_step (by repeat (first | (with_reducible first | exact HB.out | apply below_alloc | apply pw_below_drewN | apply below_drew1 | refine below_set ?_ GE459.out | refine below_set ?_ GE474.out | refine below_set ?_ GE475.out) | exact HB.out)) hb); have n6_ := Aside0.mk (hbox); have n7_ := Aside0.mk ((by rw [hg]; exact (below_size (by repeat (first | (with_reducible first | exact HB.out | apply below_alloc | apply pw_below_drewN | apply below_drew1 | refine below_set ?_ GE459.out | refine below_set ?_ GE474.out | refine below_set ?_ GE475.out) | exact HB.out))) : w.heap.size ≤ gb478)); have n8_ := Aside0.mk ((by rw [hg]; exact (below_size (by repeat (first | (with_reducible first | exact HB.out | apply below_alloc | apply pw_below_drewN | apply below_drew1 | refine below_set ?_ GE459.out | refine below_set ?_ GE474.out | refine below_set ?_ GE475.out) | exact HB.out))) : w.heap.size ≤ gb478)); have n9_ := Aside0.mk ((by rw [hg]; exact Nat.ne_of_lt (blk_lt (g := gb459) (o := .cells #[.int .i64 a0_0, .int .i64 a0_1, .slice A0_2 l0_2.length c0_2] 24 (0, 0)) (by (with_reducible repeat (first | refine blk_drewN ?_ _ | refine blk_drew ?_ | refine blk_alloc ?_ _)); exact BK459.out)) : gb459 ≠ gb478)); have n10_ := Aside0.mk ((by rw [hg]; exact Nat.ne_of_gt (blk_lt (g := gb459) (o := .cells #[.int .i64 a0_0, .int .i64 a0_1, .slice A0_2 l0_2.length c0_2] 24 (0, 0)) (by (with_reducible repeat (first | refine blk_drewN ?_ _ | refine blk_drew ?_ | refine blk_alloc ?_ _)); exact BK459.out)) : gb478 ≠ gb459)); have n11_ := Aside0.mk ((by rw [hg]; exact Nat.ne_of_lt (blk_lt (g := gb474) (o := .cells #[.int .i64 t462, .int .i64 t463, .slice Ao37 t464.length co37] 24 (0, 0)) (by (with_reducible repeat (first | refine blk_drewN ?_ _ | refine blk_drew ?_ | refine blk_alloc ?_ _)); exact BK474.out)) : gb474 ≠ gb478)); have n12_ := Aside0.mk ((by rw [hg]; exact Nat.ne_of_gt (blk_lt (g := gb474) (o := .cells #[.int .i64 t462, .int .i64 t463, .slice Ao37 t464.length co37] 24 (0, 0)) (by (with_reducible repeat (first | refine blk_drewN ?_ _ | refine blk_drew ?_ | refine blk_alloc ?_ _)); exact BK474.out)) : gb478 ≠ gb474)); have n13_ := Aside0.mk ((by rw [hg]; exact Nat.ne_of_lt (blk_lt (g := gb475) (o := .cells #[.int .i64 t467, .int .i64 t468, .slice Ao40 t469.length co40] 24 (0, 0)) (by (with_reducible repeat (first | refine blk_drewN ?_ _ | refine blk_drew ?_ | refine blk_alloc ?_ _)); exact BK475.out)) : gb475 ≠ gb478)); have n14_ := Aside0.mk ((by rw [hg]; exact Nat.ne_of_gt (blk_lt (g := gb475) (o := .cells #[.int .i64 t467, .int .i64 t468, .slice Ao40 t469.length co40] 24 (0, 0)) (by (with_reducible repeat (first | refine blk_drewN ?_ _ | refine blk_drew ?_ | refine blk_alloc ?_ _)); exact BK475.out)) : gb478 ≠ gb475)); clear HO_475002; clear HO_476002; clear BK459; clear BK474; clear BK475; clear HB; have HO_475002 := n0_; have HO_476002 := n1_; have BK459 := n2_; have BK474 := n3_; have BK475 := n4_; have HB := n5_; have BK478 := n6_; have GW478 := n7_; have GE478 := n8_; have NB459_478 := n9_; have NB478_459 := n10_; have NB474_478 := n11_; have NB478_474 := n12_; have NB475_478 := n13_; have NB478_475 := n14_; clear n0_ n1_ n2_ n3_ n4_ n5_ n6_ n7_ n8_ n9_ n10_ n11_ n12_ n13_ n14_; clear hb hbox hg; have hnb136 := NB478_459.out; have hnc136 := NB459_478.out; have hnb137 := NB478_474.out; have hnc137 := NB474_478.out; have hnb138 := NB478_475.out; have hnc138 := NB475_478.out; have hcz139_0 : w135.cell? ⟨gb478, 0, none⟩ = some (.int .i64 0) := (blk_cell BK478.out 0).trans rfl; have hcz139_1 : w135.cell? ⟨gb478, 1, none⟩ = some (.int .i64 0) := (blk_cell BK478.out 1).trans rfl; have hcz139_2 : w135.cell? ⟨gb478, 2, none⟩ = some (.slice none 0 0) := (blk_cell BK478.out 2).trans rfl; have hfz139_0 := blk_frozen BK478.out 0; have hfz139_1 := blk_frozen BK478.out 1; have hfz139_2 := blk_frozen BK478.out 2))
                    have n0_ : Aside0 (Kd.V k32 32 (((w135.setCell ⟨gb478, 0, none⟩ (.int .i64 t467)).setCell ⟨gb478, 1, none⟩ (.int .i64 t468)).setCell ⟨gb478, 2, none⟩ (.slice Ao40 t469.length co40)) w.heap.size (fun k_ => k_ ≠ gb459 ∧ k_ ≠ gb474 ∧ k_ ≠ gb475 ∧ k_ ≠ gb478) (.slice Ao37 t464.length co37) t464) := ⟨by (with_reducible repeat (first | apply Kd.V_alloc | apply Kd.V_drewN | apply Kd.V_drew)); exact Kd.V_mono (Kd.V_far (p := ⟨gb478, 2, none⟩) (Kd.V_far (p := ⟨gb478, 1, none⟩) (Kd.V_far (p := ⟨gb478, 0, none⟩) (Kd.V_mono HO_475002.out (fun k_ hk => (⟨hk, hk.2⟩ : _ ∧ k_ ≠ gb478))) (fun _ hk => hk.2) (.int .i64 t467)) (fun _ hk => hk.2) (.int .i64 t468)) (fun _ hk => hk.2) (.slice Ao40 t469.length co40)) (fun _ hk => ⟨hk.1.1.1, ⟨hk.1.1.2.1, ⟨hk.1.1.2.2, hk.1.2⟩⟩⟩)⟩
                    have n1_ : Aside0 (Kd.V k32 32 (((w135.setCell ⟨gb478, 0, none⟩ (.int .i64 t467)).setCell ⟨gb478, 1, none⟩ (.int .i64 t468)).setCell ⟨gb478, 2, none⟩ (.slice Ao40 t469.length co40)) w.heap.size (fun k_ => k_ ≠ gb459 ∧ k_ ≠ gb474 ∧ k_ ≠ gb475 ∧ k_ ≠ gb478) (.slice Ao40 t469.length co40) t469) := ⟨by (with_reducible repeat (first | apply Kd.V_alloc | apply Kd.V_drewN | apply Kd.V_drew)); exact Kd.V_mono (Kd.V_far (p := ⟨gb478, 2, none⟩) (Kd.V_far (p := ⟨gb478, 1, none⟩) (Kd.V_far (p := ⟨gb478, 0, none⟩) (Kd.V_mono HO_476002.out (fun k_ hk => (⟨hk, hk.2⟩ : _ ∧ k_ ≠ gb478))) (fun _ hk => hk.2) (.int .i64 t467)) (fun _ hk => hk.2) (.int .i64 t468)) (fun _ hk => hk.2) (.slice Ao40 t469.length co40)) (fun _ hk => ⟨hk.1.1.1, ⟨hk.1.1.2.1, ⟨hk.1.1.2.2, hk.1.2⟩⟩⟩)⟩
                    have n2_ : Aside0 ((((w135.setCell ⟨gb478, 0, none⟩ (.int .i64 t467)).setCell ⟨gb478, 1, none⟩ (.int .i64 t468)).setCell ⟨gb478, 2, none⟩ (.slice Ao40 t469.length co40)).heap[gb459]? = some (.cells #[.int .i64 a0_0, .int .i64 a0_1, .slice A0_2 l0_2.length c0_2] 24 (0, 0))) := ⟨by (with_reducible repeat (first | refine blk_drewN ?_ _ | refine blk_drew ?_ | refine blk_alloc ?_ _)); refine blk_far ?_ NB459_478.out _; (with_reducible repeat (first | refine blk_drewN ?_ _ | refine blk_drew ?_ | refine blk_alloc ?_ _)); refine blk_far ?_ NB459_478.out _; (with_reducible repeat (first | refine blk_drewN ?_ _ | refine blk_drew ?_ | refine blk_alloc ?_ _)); refine blk_far ?_ NB459_478.out _; (with_reducible repeat (first | refine blk_drewN ?_ _ | refine blk_drew ?_ | refine blk_alloc ?_ _)); exact BK459.out⟩
                    have n3_ : Aside0 ((((w135.setCell ⟨gb478, 0, none⟩ (.int .i64 t467)).setCell ⟨gb478, 1, none⟩ (.int .i64 t468)).setCell ⟨gb478, 2, none⟩ (.slice Ao40 t469.length co40)).heap[gb474]? = some (.cells #[.int .i64 t462, .int .i64 t463, .slice Ao37 t464.length co37] 24 (0, 0))) := ⟨by (with_reducible repeat (first | refine blk_drewN ?_ _ | refine blk_drew ?_ | refine blk_alloc ?_ _)); refine blk_far ?_ NB474_478.out _; (with_reducible repeat (first | refine blk_drewN ?_ _ | refine blk_drew ?_ | refine blk_alloc ?_ _)); refine blk_far ?_ NB474_478.out _; (with_reducible repeat (first | refine blk_drewN ?_ _ | refine blk_drew ?_ | refine blk_alloc ?_ _)); refine blk_far ?_ NB474_478.out _; (with_reducible repeat (first | refine blk_drewN ?_ _ | refine blk_drew ?_ | refine blk_alloc ?_ _)); exact BK474.out⟩
                    have n4_ : Aside0 ((((w135.setCell ⟨gb478, 0, none⟩ (.int .i64 t467)).setCell ⟨gb478, 1, none⟩ (.int .i64 t468)).setCell ⟨gb478, 2, none⟩ (.slice Ao40 t469.length co40)).heap[gb475]? = some (.cells #[.int .i64 t467, .int .i64 t468, .slice Ao40 t469.length co40] 24 (0, 0))) := ⟨by (with_reducible repeat (first | refine blk_drewN ?_ _ | refine blk_drew ?_ | refine blk_alloc ?_ _)); refine blk_far ?_ NB475_478.out _; (with_reducible repeat (first | refine blk_drewN ?_ _ | refine blk_drew ?_ | refine blk_alloc ?_ _)); refine blk_far ?_ NB475_478.out _; (with_reducible repeat (first | refine blk_drewN ?_ _ | refine blk_drew ?_ | refine blk_alloc ?_ _)); refine blk_far ?_ NB475_478.out _; (with_reducible repeat (first | refine blk_drewN ?_ _ | refine blk_drew ?_ | refine blk_alloc ?_ _)); exact BK475.out⟩
                    have n5_ : Aside0 ((((w135.setCell ⟨gb478, 0, none⟩ (.int .i64 t467)).setCell ⟨gb478, 1, none⟩ (.int .i64 t468)).setCell ⟨gb478, 2, none⟩ (.slice Ao40 t469.length co40)).heap[gb478]? = some (.cells #[.int .i64 t467, .int .i64 t468, .slice Ao40 t469.length co40] 24 (0, 0))) := ⟨by (with_reducible repeat (first | refine blk_drewN ?_ _ | refine blk_drew ?_ | refine blk_alloc ?_ _)); refine blk_put (cs := #[.int .i64 t467, .int .i64 t468, .slice none 0 0]) ?_ 2 _ rfl; (with_reducible repeat (first | refine blk_drewN ?_ _ | refine blk_drew ?_ | refine blk_alloc ?_ _)); refine blk_put (cs := #[.int .i64 t467, .int .i64 0, .slice none 0 0]) ?_ 1 _ rfl; (with_reducible repeat (first | refine blk_drewN ?_ _ | refine blk_drew ?_ | refine blk_alloc ?_ _)); refine blk_put (cs := #[.int .i64 0, .int .i64 0, .slice none 0 0]) ?_ 0 _ rfl; (with_reducible repeat (first | refine blk_drewN ?_ _ | refine blk_drew ?_ | refine blk_alloc ?_ _)); exact BK478.out⟩
                    have n6_ : Aside0 (Below w.heap.size w (((w135.setCell ⟨gb478, 0, none⟩ (.int .i64 t467)).setCell ⟨gb478, 1, none⟩ (.int .i64 t468)).setCell ⟨gb478, 2, none⟩ (.slice Ao40 t469.length co40))) := ⟨by repeat (first | (with_reducible first | exact HB.out | apply below_alloc | apply pw_below_drewN | apply below_drew1 | refine below_set ?_ GE459.out | refine below_set ?_ GE474.out | refine below_set ?_ GE475.out | refine below_set ?_ GE478.out) | exact HB.out)⟩
                    (try clear HO_475002)
                    (try clear HO_476002)
                    (try clear BK459)
                    (try clear BK474)
                    (try clear BK475)
                    (try clear BK478)
                    (try clear HB)
                    generalize (((w135.setCell ⟨gb478, 0, none⟩ (.int .i64 t467)).setCell ⟨gb478, 1, none⟩ (.int .i64 t468)).setCell ⟨gb478, 2, none⟩ (.slice Ao40 t469.length co40)) = w140 at n0_ n1_ n2_ n3_ n4_ n5_ n6_ ⊢
                    have HO_475002 := n0_
                    have HO_476002 := n1_
                    have BK459 := n2_
                    have BK474 := n3_
                    have BK475 := n4_
                    have BK478 := n5_
                    have HB := n6_
                    clear n0_ n1_ n2_ n3_ n4_ n5_ n6_
                    have n0_ := Aside0.mk (Kd.V_drew HO_475002.out)
                    have n1_ := Aside0.mk (Kd.V_drew HO_476002.out)
                    have n2_ := Aside0.mk (blk_drew BK459.out)
                    have n3_ := Aside0.mk (blk_drew BK474.out)
                    have n4_ := Aside0.mk (blk_drew BK475.out)
                    have n5_ := Aside0.mk (blk_drew BK478.out)
                    have n6_ := Aside0.mk (below_drew1 HB.out)
                    clear HO_475002
                    clear HO_476002
                    clear BK459
                    clear BK474
                    clear BK475
                    clear BK478
                    clear HB
                    have HO_475002 := n0_
                    have HO_476002 := n1_
                    have BK459 := n2_
                    have BK474 := n3_
                    have BK475 := n4_
                    have BK478 := n5_
                    have HB := n6_
                    clear n0_ n1_ n2_ n3_ n4_ n5_ n6_
                    refine start_ (n := 8) (S := fun w' => w'.cell? ⟨gb478, 0, none⟩ = some (.int .i64 t467) ∧ w'.cell? ⟨gb478, 1, none⟩ = some (.int .i64 t468) ∧ w'.cell? ⟨gb478, 2, none⟩ = some (.slice Ao40 t469.length co40) ∧ w'.cell? ⟨gb459, 0, none⟩ = some (.int .i64 a0_0) ∧ w'.cell? ⟨gb459, 1, none⟩ = some (.int .i64 a0_1) ∧ w'.cell? ⟨gb459, 2, none⟩ = some (.slice A0_2 l0_2.length c0_2)) (ds := []) #[false, false, false, false, false, false, false, false] (by kernel_rfl) rfl rfl ⟨(blk_cell BK478.out 0).trans rfl, (blk_cell BK478.out 1).trans rfl, (blk_cell BK478.out 2).trans rfl, (blk_cell BK459.out 0).trans rfl, (blk_cell BK459.out 1).trans rfl, (blk_cell BK459.out 2).trans rfl⟩ (fun hHeld => ?_); refine with_tabW dasdlaw20_NodeHalves.tab13 dasdlaw20_NodeHalves.bits13 (fun HT_ HW_ => ?_)
                    generalize w140.drew = w141 at HO_475002 HO_476002 BK459 BK474 BK475 BK478 HB hHeld ⊢
                    refine pure_ (i := 1) (N := some 95) (v := ?_) (a' := ?_) #[false, true, false, false, false, false, false, false] rfl rfl (any_of HT_.out (by kernel_rfl)) (fun _ _ _ h => h) (Or.inl ⟨by rfl, ?_⟩) ?_ ?_
                    rotate_left
                    · intro w'
                      go_simp
                      with_reducible rfl
                    rotate_left
                    · simp only [Act.put, List.setIfInBounds_toArray, List.set_cons_zero, List.set_cons_succ, i64_w, i32_w]
                      rfl
                    refine pure_ (i := 4) (N := some 98) (v := ?_) (a' := ?_) #[false, true, false, false, true, false, false, false] rfl rfl (any_of HT_.out (by kernel_rfl)) (fun _ _ _ h => h) (Or.inl ⟨by rfl, ?_⟩) ?_ ?_
                    rotate_left
                    · intro w'
                      go_simp
                      with_reducible rfl
                    rotate_left
                    · simp only [Act.put, List.setIfInBounds_toArray, List.set_cons_zero, List.set_cons_succ, i64_w, i32_w]
                      rfl
                    refine take_ (i := 0) (N := some 94) (v := ?_) (a' := ?_) #[true, true, false, false, true, false, false, false] rfl rfl (take_ofW HT_.out HW_.out (by kernel_rfl)) (fun _ _ _ h => h) (Or.inl ⟨by rfl, ?_⟩) hHeld ?_ ?_
                    rotate_left
                    · rintro w' ⟨s0, s1, s2, s3, s4, s5⟩
                      go_simp
                      with_reducible rfl
                    rotate_left
                    · simp only [Act.put, List.setIfInBounds_toArray, List.set_cons_zero, List.set_cons_succ, i64_w, i32_w]
                      rfl
                    refine take_ (i := 3) (N := some 97) (v := ?_) (a' := ?_) #[true, true, false, true, true, false, false, false] rfl rfl (take_ofW HT_.out HW_.out (by kernel_rfl)) (fun _ _ _ h => h) (Or.inl ⟨by rfl, ?_⟩) hHeld ?_ ?_
                    rotate_left
                    · rintro w' ⟨s0, s1, s2, s3, s4, s5⟩
                      go_simp
                      with_reducible rfl
                    rotate_left
                    · simp only [Act.put, List.setIfInBounds_toArray, List.set_cons_zero, List.set_cons_succ, i64_w, i32_w]
                      rfl
                    refine one_ (i := 2) (N := some 96) #[true, true, true, true, true, false, false, false] rfl rfl (one_of HT_.out (by kernel_rfl)) (by decide) (fun K hK => ?_)
                    refine goes_ Try.func14 (by kernel_rfl) rfl #[.agg #[.int .i64 t467, .int .i64 t468, .slice Ao40 t469.length co40], .string a1] (by rfl) rfl rfl (by (try simp only [List.map_toArray, List.map_cons, List.map_nil]); first | done | rfl | (simp only [List.length_drop, List.length_take]; rfl)) ?_
                    with_reducible refine (dasdlaw20_page.calls t467 t468 _ _ t469 a1 t481 _ ?side1 ?side2 A130.out).mono ?_
                    (case side1 => repeat (first | exact (Kd.V_reads' HO_476002.out).2.2 | (with_reducible refine Kd.C_alloc ?_ _) | (with_reducible refine Kd.C_drewN ?_ _) | (with_reducible refine Kd.C_drew ?_)))
                    (case side2 => exact (Kd.V_reads' HO_476002.out).2.1)
                    rintro e w142 ⟨rfl, hb⟩
                    refine ⟨_, rfl, ?_⟩
                    have n0_ := Aside0.mk (Kd.V_below (by (with_reducible repeat (first | apply Kd.V_alloc | apply Kd.V_drewN | apply Kd.V_drew)); exact HO_475002.out) hb)
                    have n1_ := Aside0.mk (Kd.V_below (by (with_reducible repeat (first | apply Kd.V_alloc | apply Kd.V_drewN | apply Kd.V_drew)); exact HO_476002.out) hb)
                    have n2_ := Aside0.mk (blk_below (g := gb459) (o := .cells #[.int .i64 a0_0, .int .i64 a0_1, .slice A0_2 l0_2.length c0_2] 24 (0, 0)) (by (with_reducible repeat (first | refine blk_drewN ?_ _ | refine blk_drew ?_ | refine blk_alloc ?_ _)); exact BK459.out) hb)
                    have n3_ := Aside0.mk (blk_below (g := gb474) (o := .cells #[.int .i64 t462, .int .i64 t463, .slice Ao37 t464.length co37] 24 (0, 0)) (by (with_reducible repeat (first | refine blk_drewN ?_ _ | refine blk_drew ?_ | refine blk_alloc ?_ _)); exact BK474.out) hb)
                    have n4_ := Aside0.mk (blk_below (g := gb475) (o := .cells #[.int .i64 t467, .int .i64 t468, .slice Ao40 t469.length co40] 24 (0, 0)) (by (with_reducible repeat (first | refine blk_drewN ?_ _ | refine blk_drew ?_ | refine blk_alloc ?_ _)); exact BK475.out) hb)
                    have n5_ := Aside0.mk (blk_below (g := gb478) (o := .cells #[.int .i64 t467, .int .i64 t468, .slice Ao40 t469.length co40] 24 (0, 0)) (by (with_reducible repeat (first | refine blk_drewN ?_ _ | refine blk_drew ?_ | refine blk_alloc ?_ _)); exact BK478.out) hb)
                    have n6_ := Aside0.mk (below_step (by repeat (first | (with_reducible first | exact HB.out | apply below_alloc | apply pw_below_drewN | apply below_drew1 | refine below_set ?_ GE459.out | refine below_set ?_ GE474.out | refine below_set ?_ GE475.out | refine below_set ?_ GE478.out) | exact HB.out)) hb)
                    clear HO_475002
                    clear HO_476002
                    clear BK459
                    clear BK474
                    clear BK475
                    clear BK478
                    clear HB
                    have HO_475002 := n0_
                    have HO_476002 := n1_
                    have BK459 := n2_
                    have BK474 := n3_
                    have BK475 := n4_
                    have BK478 := n5_
                    have HB := n6_
                    clear n0_ n1_ n2_ n3_ n4_ n5_ n6_
                    (try clear hb)
                    (try clear hb2)
                    (try clear hk)
                    (try clear hi)
                    refine hK.out _ _ ⟨(blk_cell BK478.out 0).trans rfl, (blk_cell BK478.out 1).trans rfl, (blk_cell BK478.out 2).trans rfl, (blk_cell BK459.out 0).trans rfl, (blk_cell BK459.out 1).trans rfl, (blk_cell BK459.out 2).trans rfl⟩ (fun hHeld => ?_)
                    clear hK K
                    refine norm_ (a' := ?_) ?_ ?_
                    rotate_left
                    · show Act.put _ (some 96) _ = _
                      simp only [Act.put, List.setIfInBounds_toArray, List.set_cons_zero, List.set_cons_succ, i64_w, i32_w]
                      rfl
                    refine one_ (i := 5) (N := some 99) #[true, true, true, true, true, true, false, false] rfl rfl (one_of HT_.out (by kernel_rfl)) (by decide) (fun K hK => ?_)
                    refine goes_ Try.func14 (by kernel_rfl) rfl #[.agg #[.int .i64 a0_0, .int .i64 a0_1, .slice A0_2 l0_2.length c0_2], .string a1] (by rfl) rfl rfl (by (try simp only [List.map_toArray, List.map_cons, List.map_nil]); first | done | rfl | (simp only [List.length_drop, List.length_take]; rfl)) ?_
                    with_reducible refine (dasdlaw20_page.calls a0_0 a0_1 _ _ l0_2 a1 t482 _ ?side1 ?side2 A131.out).mono ?_
                    (case side1 => repeat (first | exact (Kd.C_below HR0_2.out HB.out) | (with_reducible refine Kd.C_alloc ?_ _) | (with_reducible refine Kd.C_drewN ?_ _) | (with_reducible refine Kd.C_drew ?_)))
                    (case side2 => exact HC0_2.out)
                    rintro e w143 ⟨rfl, hb⟩
                    refine ⟨_, rfl, ?_⟩
                    have n0_ := Aside0.mk (Kd.V_below (by (with_reducible repeat (first | apply Kd.V_alloc | apply Kd.V_drewN | apply Kd.V_drew)); exact HO_475002.out) hb)
                    have n1_ := Aside0.mk (Kd.V_below (by (with_reducible repeat (first | apply Kd.V_alloc | apply Kd.V_drewN | apply Kd.V_drew)); exact HO_476002.out) hb)
                    have n2_ := Aside0.mk (blk_below (g := gb459) (o := .cells #[.int .i64 a0_0, .int .i64 a0_1, .slice A0_2 l0_2.length c0_2] 24 (0, 0)) (by (with_reducible repeat (first | refine blk_drewN ?_ _ | refine blk_drew ?_ | refine blk_alloc ?_ _)); exact BK459.out) hb)
                    have n3_ := Aside0.mk (blk_below (g := gb474) (o := .cells #[.int .i64 t462, .int .i64 t463, .slice Ao37 t464.length co37] 24 (0, 0)) (by (with_reducible repeat (first | refine blk_drewN ?_ _ | refine blk_drew ?_ | refine blk_alloc ?_ _)); exact BK474.out) hb)
                    have n4_ := Aside0.mk (blk_below (g := gb475) (o := .cells #[.int .i64 t467, .int .i64 t468, .slice Ao40 t469.length co40] 24 (0, 0)) (by (with_reducible repeat (first | refine blk_drewN ?_ _ | refine blk_drew ?_ | refine blk_alloc ?_ _)); exact BK475.out) hb)
                    have n5_ := Aside0.mk (blk_below (g := gb478) (o := .cells #[.int .i64 t467, .int .i64 t468, .slice Ao40 t469.length co40] 24 (0, 0)) (by (with_reducible repeat (first | refine blk_drewN ?_ _ | refine blk_drew ?_ | refine blk_alloc ?_ _)); exact BK478.out) hb)
                    have n6_ := Aside0.mk (below_step (by repeat (first | (with_reducible first | exact HB.out | apply below_alloc | apply pw_below_drewN | apply below_drew1 | refine below_set ?_ GE459.out | refine below_set ?_ GE474.out | refine below_set ?_ GE475.out | refine below_set ?_ GE478.out) | exact HB.out)) hb)
                    clear HO_475002
                    clear HO_476002
                    clear BK459
                    clear BK474
                    clear BK475
                    clear BK478
                    clear HB
                    have HO_475002 := n0_
                    have HO_476002 := n1_
                    have BK459 := n2_
                    have BK474 := n3_
                    have BK475 := n4_
                    have BK478 := n5_
                    have HB := n6_
                    clear n0_ n1_ n2_ n3_ n4_ n5_ n6_
                    (try clear hb)
                    (try clear hb2)
                    (try clear hk)
                    (try clear hi)
                    refine hK.out _ _ ⟨(blk_cell BK478.out 0).trans rfl, (blk_cell BK478.out 1).trans rfl, (blk_cell BK478.out 2).trans rfl, (blk_cell BK459.out 0).trans rfl, (blk_cell BK459.out 1).trans rfl, (blk_cell BK459.out 2).trans rfl⟩ (fun hHeld => ?_)
                    clear hK K
                    refine norm_ (a' := ?_) ?_ ?_
                    rotate_left
                    · show Act.put _ (some 99) _ = _
                      simp only [Act.put, List.setIfInBounds_toArray, List.set_cons_zero, List.set_cons_succ, i64_w, i32_w]
                      rfl
                    refine pure_ (i := 6) (N := some 100) (v := ?_) (a' := ?_) #[true, true, true, true, true, true, true, false] rfl rfl (any_of HT_.out (by kernel_rfl)) (fun _ _ _ h => h) (Or.inl ⟨by rfl, ?_⟩) ?_ ?_
                    rotate_left
                    · intro w'
                      go_simp
                      with_reducible rfl
                    rotate_left
                    · simp only [Act.put, List.setIfInBounds_toArray, List.set_cons_zero, List.set_cons_succ, i64_w, i32_w]
                      rfl
                    refine pure_ (i := 7) (N := some 4) (v := ?_) (a' := ?_) #[true, true, true, true, true, true, true, true] rfl rfl (any_of HT_.out (by kernel_rfl)) (fun _ _ _ h => h) (Or.inl ⟨by rfl, ?_⟩) ?_ ?_
                    rotate_left
                    · intro w'
                      go_simp
                      with_reducible rfl
                    rotate_left
                    · simp only [Act.put, List.setIfInBounds_toArray, List.set_cons_zero, List.set_cons_succ, i64_w, i32_w]
                      rfl
                    refine done_ (done_of HT_.out (by kernel_rfl)) ?_
                    try go_wp2
                    go_ret
                    exact ⟨by first | rfl | (simp [errW_none, errW_some] <;> rfl) | (simp [*, errW_none, errW_some] <;> rfl), by repeat (first | (with_reducible first | exact HB.out | apply below_alloc | apply pw_below_drewN | apply below_drew1 | refine below_set ?_ GE459.out | refine below_set ?_ GE474.out | refine below_set ?_ GE475.out | refine below_set ?_ GE478.out) | exact HB.out)⟩
  · replace c4 := Bool.eq_false_iff.mpr c4
    subst c4
    have H1 : (some false) = some r := by rw [if_neg (show ¬ (false = true) by decide)] at H; exact H
    clear H
    have H := H1
    clear H1
    obtain rfl := Option.some.inj H
    go_enter Try.func9, Try.ntmps9
    go_wp2_with (first | ((with_reducible refine gate_dst (N := 2) rfl ?_); (try (refine gate_guard (by rfl) ?_; dsimp only)); refine box_event ?hg (N := 2) ?hd (cs := #[.int .i64 a0_0, .int .i64 a0_1, .slice A0_2 l0_2.length c0_2]) (t := 24) ?hr ?_; (case hd => rfl); (case hg => rfl); (case hr => first | (go_simp; done) | (go_simp; rfl)); intro gb459 hg w144 hbox hb; have n0_ := Aside0.mk (below_step (by repeat (first | (with_reducible first | exact HB.out | apply below_alloc | apply pw_below_drewN | apply below_drew1) | exact HB.out)) hb); have n1_ := Aside0.mk (hbox); have n2_ := Aside0.mk ((by rw [hg]; exact (below_size (by repeat (first | (with_reducible first | exact HB.out | apply below_alloc | apply pw_below_drewN | apply below_drew1) | exact HB.out))) : w.heap.size ≤ gb459)); have n3_ := Aside0.mk ((by rw [hg]; exact (below_size (by repeat (first | (with_reducible first | exact HB.out | apply below_alloc | apply pw_below_drewN | apply below_drew1) | exact HB.out))) : w.heap.size ≤ gb459)); clear HB; have HB := n0_; have BK459 := n1_; have GW459 := n2_; have GE459 := n3_; clear n0_ n1_ n2_ n3_; clear hb hbox hg) | ((with_reducible refine gate_callee (f := 10) rfl ?_); refine goesL_ (some 10) rfl rfl Try.func10 (by kernel_rfl) rfl #[] rfl (by (try simp only [List.map_toArray, List.map_cons, List.map_nil]); first | done | rfl | (simp only [List.length_drop, List.length_take]; rfl)) ?_; (with_reducible refine (dasdlaw20_awake.calls k  false _ A3.out).mono ?_); rintro e w145 ⟨rfl, hb⟩; refine ⟨_, rfl, ?_⟩; have n0_ := Aside0.mk (blk_below (g := gb459) (o := .cells #[.int .i64 a0_0, .int .i64 a0_1, .slice A0_2 l0_2.length c0_2] 24 (0, 0)) (by (with_reducible repeat (first | refine blk_drewN ?_ _ | refine blk_drew ?_ | refine blk_alloc ?_ _)); exact BK459.out) hb); have n1_ := Aside0.mk (below_step (by repeat (first | (with_reducible first | exact HB.out | apply below_alloc | apply pw_below_drewN | apply below_drew1 | refine below_set ?_ GE459.out) | exact HB.out)) hb); clear BK459; clear HB; have BK459 := n0_; have HB := n1_; clear n0_ n1_; (try clear hb); (try clear hb2); (try clear hk); (try clear hi)))
    go_ret
    exact ⟨by first | rfl | (simp [errW_none, errW_some] <;> rfl) | (simp [*, errW_none, errW_some] <;> rfl), by repeat (first | (with_reducible first | exact HB.out | apply below_alloc | apply pw_below_drewN | apply below_drew1 | refine below_set ?_ GE459.out) | exact HB.out)⟩

end Go.Proofs.Ytffkgdaookidbaa.XNx
