/- Written by xprint.py, a program of this session: what functions of the program answer, each by a walk of its code; no condition beside those in the statements. -/
import Derived.Test.YtffkgdaookidbaaXNx0
import Derived.Test.YtffkgdaookidbaaXNx3
import Derived.Test.YtffkgdaookidbaaXNx8
import Derived.Test.YtffkgdaookidbaaXNx9
import Derived.Test.YtffkgdaookidbaaXNx11
import Derived.Test.YtffkgdaookidbaaXNx13
import Derived.Test.YtffkgdaookidbaaXNx17
import Derived.Test.YtffkgdaookidbaaXNx29
namespace Go.Proofs.Ytffkgdaookidbaa.XNx
open Go.RowKit Go.Proofs.YtffkgdaookidbaaW.PrintWords Go.Proofs.YtffkgdaookidbaaW.PrintLast Go.Proofs.YtffkgdaookidbaaW.PrintMore
attribute [local go_sem] max2_int min2_int max_two min_two max_three min_three max_four min_four   -- for this text's walks alone
open Go.Proofs.Ytffkgdaookidbaa.XW
set_option linter.unusedVariables false
set_option linter.unusedSimpArgs false

/-! ### dasdlaw20_NodeInverts: function 8 -/
mutual
def dasdlaw20_NodeInverts.j0 : Nat → Int → ByteArray → Bool → Int → Int → List (S32) → Option (Bool)
  | 0, _, _, _, _, _, _ => none
  | k + 1, x0, x2, x22, x436000, x436001, x436002 => if x22 = true then (some true) else ((node_Encode.f k x0 x436000 x436001 x436002).bind fun bt438 => ((node_Valid.f k x0 x436000 x436001 x436002).bind fun t440 => (if ((bt438.2 == 0) != t440) = true then (some false) else (if bt438.2 = 0 then ((node_Decode.f k x0 bt438.1).bind fun bt441 => (if bt441.2.2.2 = 0 then (if (bt438.1.size : Int) = x0 then ((dasdref20_Same.f k x436000 x436001 x436002 bt441.1 bt441.2.1 bt441.2.2.1).bind fun t448 => (if t448 = true then ((node_Size.f k x436000 x436001 x436002).bind fun t449 => (if t449 > x0 then (some false) else (dasdlaw20_NodeInverts.j1 k x0 x2))) else (some false))) else (some false)) else (some false))) else (dasdlaw20_NodeInverts.j1 k x0 x2)))))
def dasdlaw20_NodeInverts.j1 : Nat → Int → ByteArray → Option (Bool)
  | 0, _, _ => none
  | k + 1, x0, x2 => (node_Decode.f k x0 x2).bind fun bt450 => (if bt450.2.2.2 = 0 then ((node_Encode.f k x0 bt450.1 bt450.2.1 bt450.2.2.1).bind fun bt457 => (if bt457.2 = 0 then (some (bt457.1.toList == x2.toList)) else (some false))) else (some ((bt450.2.2.1.length : Int) == 0)))
end
def dasdlaw20_NodeInverts.f (k : Nat) (a0 : Int) (a1_0 : Int) (a1_1 : Int) (l1_2 : List (S32)) (a2 : ByteArray) : Option (Bool) := (dasdlaw20_awake.f k).bind fun t436 => (if t436 = true then ((dasdref20_Few.f k a1_0 a1_1 l1_2).bind fun t437 => (if t437 = true then (dasdlaw20_NodeInverts.j0 k a0 a2 (decide ((a2.size : Int) > 600)) a1_0 a1_1 l1_2) else (dasdlaw20_NodeInverts.j0 k a0 a2 true a1_0 a1_1 l1_2))) else (some false))
theorem dasdlaw20_NodeInverts.mono_l : ∀ k, (∀ y0 y1 y2 y3 y4 y5, LeO (dasdlaw20_NodeInverts.j0 k y0 y1 y2 y3 y4 y5) (dasdlaw20_NodeInverts.j0 (k + 1) y0 y1 y2 y3 y4 y5)) ∧ (∀ y0 y1, LeO (dasdlaw20_NodeInverts.j1 k y0 y1) (dasdlaw20_NodeInverts.j1 (k + 1) y0 y1))
  | 0 => ⟨fun _ _ _ _ _ _ r h => by simp [dasdlaw20_NodeInverts.j0] at h, fun _ _ r h => by simp [dasdlaw20_NodeInverts.j1] at h⟩
  | k + 1 => by
    obtain ⟨ih0, ih1⟩ := dasdlaw20_NodeInverts.mono_l k
    refine ⟨?_, ?_⟩
    · intro y0 y1 y2 y3 y4 y5
      unfold dasdlaw20_NodeInverts.j0
      repeat' first
      | (with_reducible exact ih0 _ _ _ _ _ _)
      | (with_reducible exact ih1 _ _)
      | (with_reducible exact dasdlaw20_awake.mono _)
      | (with_reducible exact dasdref20_Few.mono _ _ _ _)
      | (with_reducible exact dasdref20_Same.mono _ _ _ _ _ _ _)
      | (with_reducible exact node_Decode.mono _ _ _)
      | (with_reducible exact node_Encode.mono _ _ _ _ _)
      | (with_reducible exact node_Size.mono _ _ _ _)
      | (with_reducible exact node_Valid.mono _ _ _ _ _)
      | (with_reducible exact LeO.refl _)
      | (with_reducible exact LeO.none _)
      | (with_reducible refine LeO.ite ?_ ?_)
      | (with_reducible refine LeO.bind ?_ (fun _ => ?_))
      | exact ih0 _ _ _ _ _ _
      | exact ih1 _ _
      | exact dasdlaw20_awake.mono _
      | exact dasdref20_Few.mono _ _ _ _
      | exact dasdref20_Same.mono _ _ _ _ _ _ _
      | exact node_Decode.mono _ _ _
      | exact node_Encode.mono _ _ _ _ _
      | exact node_Size.mono _ _ _ _
      | exact node_Valid.mono _ _ _ _ _
      | exact LeO.none _
      | refine LeO.ite ?_ ?_
      | refine LeO.bind ?_ (fun _ => ?_)
    · intro y0 y1
      unfold dasdlaw20_NodeInverts.j1
      repeat' first
      | (with_reducible exact ih0 _ _ _ _ _ _)
      | (with_reducible exact ih1 _ _)
      | (with_reducible exact dasdlaw20_awake.mono _)
      | (with_reducible exact dasdref20_Few.mono _ _ _ _)
      | (with_reducible exact dasdref20_Same.mono _ _ _ _ _ _ _)
      | (with_reducible exact node_Decode.mono _ _ _)
      | (with_reducible exact node_Encode.mono _ _ _ _ _)
      | (with_reducible exact node_Size.mono _ _ _ _)
      | (with_reducible exact node_Valid.mono _ _ _ _ _)
      | (with_reducible exact LeO.refl _)
      | (with_reducible exact LeO.none _)
      | (with_reducible refine LeO.ite ?_ ?_)
      | (with_reducible refine LeO.bind ?_ (fun _ => ?_))
      | exact ih0 _ _ _ _ _ _
      | exact ih1 _ _
      | exact dasdlaw20_awake.mono _
      | exact dasdref20_Few.mono _ _ _ _
      | exact dasdref20_Same.mono _ _ _ _ _ _ _
      | exact node_Decode.mono _ _ _
      | exact node_Encode.mono _ _ _ _ _
      | exact node_Size.mono _ _ _ _
      | exact node_Valid.mono _ _ _ _ _
      | exact LeO.none _
      | refine LeO.ite ?_ ?_
      | refine LeO.bind ?_ (fun _ => ?_)
theorem dasdlaw20_NodeInverts.mono : ∀ a0 a1 a2 a3 a4 k, LeO (dasdlaw20_NodeInverts.f k a0 a1 a2 a3 a4) (dasdlaw20_NodeInverts.f (k + 1) a0 a1 a2 a3 a4) := by
  intro a0 a1 a2 a3 a4 k
  obtain ⟨ih0, ih1⟩ := dasdlaw20_NodeInverts.mono_l k
  unfold dasdlaw20_NodeInverts.f
  repeat' first
      | (with_reducible exact ih0 _ _ _ _ _ _)
      | (with_reducible exact ih1 _ _)
      | (with_reducible exact dasdlaw20_awake.mono _)
      | (with_reducible exact dasdref20_Few.mono _ _ _ _)
      | (with_reducible exact dasdref20_Same.mono _ _ _ _ _ _ _)
      | (with_reducible exact node_Decode.mono _ _ _)
      | (with_reducible exact node_Encode.mono _ _ _ _ _)
      | (with_reducible exact node_Size.mono _ _ _ _)
      | (with_reducible exact node_Valid.mono _ _ _ _ _)
      | (with_reducible exact LeO.refl _)
      | (with_reducible exact LeO.none _)
      | (with_reducible refine LeO.ite ?_ ?_)
      | (with_reducible refine LeO.bind ?_ (fun _ => ?_))
      | exact ih0 _ _ _ _ _ _
      | exact ih1 _ _
      | exact dasdlaw20_awake.mono _
      | exact dasdref20_Few.mono _ _ _ _
      | exact dasdref20_Same.mono _ _ _ _ _ _ _
      | exact node_Decode.mono _ _ _
      | exact node_Encode.mono _ _ _ _ _
      | exact node_Size.mono _ _ _ _
      | exact node_Valid.mono _ _ _ _ _
      | exact LeO.none _
      | refine LeO.ite ?_ ?_
      | refine LeO.bind ?_ (fun _ => ?_)
set_option maxHeartbeats 8000000 in
set_option maxRecDepth 100000 in
theorem dasdlaw20_NodeInverts.calls (k : Nat) (a0 : Int) (a1_0 : Int) (a1_1 : Int) (A1_2 : Option Addr) (c1_2 : Nat) (l1_2 : List (S32)) (a2 : ByteArray) (r : Bool) (w : World) (hr1_2 : Kd.C k32 w A1_2 l1_2.length l1_2) (hc1_2 : l1_2.length ≤ c1_2) (h : dasdlaw20_NodeInverts.f k a0 a1_0 a1_1 l1_2 a2 = some r) :
    Calls Try.prog 8 #[.int .i64 a0, .agg #[.int .i64 a1_0, .int .i64 a1_1, .slice A1_2 l1_2.length c1_2], .string a2] w fun e w' => e = .returned (.bool r) ∧ Below w.heap.size w w' := by
  have hu24 := Try.underlying24
  have HR1_2 := Aside0.mk hr1_2
  have HC1_2 := Aside0.mk hc1_2
  clear hr1_2 hc1_2
  have HB := Aside0.mk (Below.refl w.heap.size w)
  have H : ((dasdlaw20_awake.f k).bind fun t436 => (if t436 = true then ((dasdref20_Few.f k a1_0 a1_1 l1_2).bind fun t437 => (if t437 = true then (dasdlaw20_NodeInverts.j0 k a0 a2 (decide ((a2.size : Int) > 600)) a1_0 a1_1 l1_2) else (dasdlaw20_NodeInverts.j0 k a0 a2 true a1_0 a1_1 l1_2))) else (some false))) = some r := h
  clear h
  replace H := Option.bind_eq_some_iff.mp H
  obtain ⟨t436, A40, H⟩ := H
  replace H : (if t436 = true then ((dasdref20_Few.f k a1_0 a1_1 l1_2).bind fun t437 => (if t437 = true then (dasdlaw20_NodeInverts.j0 k a0 a2 (decide ((a2.size : Int) > 600)) a1_0 a1_1 l1_2) else (dasdlaw20_NodeInverts.j0 k a0 a2 true a1_0 a1_1 l1_2))) else (some false)) = some r := H
  have A4 := Aside0.mk A40
  clear A40
  by_cases c5 : t436 = true
  · subst c5
    have H1 : ((dasdref20_Few.f k a1_0 a1_1 l1_2).bind fun t437 => (if t437 = true then (dasdlaw20_NodeInverts.j0 k a0 a2 (decide ((a2.size : Int) > 600)) a1_0 a1_1 l1_2) else (dasdlaw20_NodeInverts.j0 k a0 a2 true a1_0 a1_1 l1_2))) = some r := by rw [if_pos rfl] at H; exact H
    clear H
    have H := H1
    clear H1
    have HC6 := Aside0.mk H
    clear H
    go_enter Try.func8, Try.ntmps8
    go_upto_region 3 with (first | ((with_reducible refine gate_dst (N := 4) rfl ?_); (try (refine gate_guard (by rfl) ?_; dsimp only)); refine box_event ?hg (N := 4) ?hd (cs := #[.int .i64 a1_0, .int .i64 a1_1, .slice A1_2 l1_2.length c1_2]) (t := 24) ?hr ?_; (case hd => rfl); (case hg => rfl); (case hr => first | (go_simp; done) | (go_simp; rfl)); intro gb435 hg w7 hbox hb; have n0_ := Aside0.mk (below_step (by repeat (first | (with_reducible first | exact HB.out | apply below_alloc | apply pw_below_drewN | apply below_drew1) | exact HB.out)) hb); have n1_ := Aside0.mk (hbox); have n2_ := Aside0.mk ((by rw [hg]; exact (below_size (by repeat (first | (with_reducible first | exact HB.out | apply below_alloc | apply pw_below_drewN | apply below_drew1) | exact HB.out))) : w.heap.size ≤ gb435)); have n3_ := Aside0.mk ((by rw [hg]; exact (below_size (by repeat (first | (with_reducible first | exact HB.out | apply below_alloc | apply pw_below_drewN | apply below_drew1) | exact HB.out))) : w.heap.size ≤ gb435)); clear HB; have HB := n0_; have BK435 := n1_; have GW435 := n2_; have GE435 := n3_; clear n0_ n1_ n2_ n3_; clear hb hbox hg) | ((with_reducible refine gate_callee (f := 10) rfl ?_); refine goesL_ (some 13) rfl rfl Try.func10 (by kernel_rfl) rfl #[] rfl (by (try simp only [List.map_toArray, List.map_cons, List.map_nil]); first | done | rfl | (simp only [List.length_drop, List.length_take]; rfl)) ?_; (with_reducible refine (dasdlaw20_awake.calls k  true _ A4.out).mono ?_); rintro e w8 ⟨rfl, hb⟩; refine ⟨_, rfl, ?_⟩; have n0_ := Aside0.mk (blk_below (g := gb435) (o := .cells #[.int .i64 a1_0, .int .i64 a1_1, .slice A1_2 l1_2.length c1_2] 24 (0, 0)) (by (with_reducible repeat (first | refine blk_drewN ?_ _ | refine blk_drew ?_ | refine blk_alloc ?_ _)); exact BK435.out) hb); have n1_ := Aside0.mk (below_step (by repeat (first | (with_reducible first | exact HB.out | apply below_alloc | apply pw_below_drewN | apply below_drew1 | refine below_set ?_ GE435.out) | exact HB.out)) hb); clear BK435; clear HB; have BK435 := n0_; have HB := n1_; clear n0_ n1_; (try clear hb); (try clear hb2); (try clear hk); (try clear hi)))
    (try simp only [Act.put, List.setIfInBounds_toArray, List.set_cons_zero, List.set_cons_succ])
    go_cut [22] (fun v22 wc => ∃ (kq : Nat) (x22_5 : Bool), v22 = .bool x22_5 ∧ Aside0 (dasdlaw20_NodeInverts.j0 kq a0 a2 x22_5 a1_0 a1_1 l1_2 = some r) ∧ Aside0 (kq ≤ k) ∧ Aside0 (wc.heap[gb435]? = some (.cells #[.int .i64 a1_0, .int .i64 a1_1, (.slice A1_2 l1_2.length c1_2)] 24 (0, 0))) ∧ Aside0 (Below w.heap.size w wc))
    case first =>
      have H := HC6.out
      clear HC6
      replace H := Option.bind_eq_some_iff.mp H
      obtain ⟨t437, A90, H⟩ := H
      replace H : (if t437 = true then (dasdlaw20_NodeInverts.j0 k a0 a2 (decide ((a2.size : Int) > 600)) a1_0 a1_1 l1_2) else (dasdlaw20_NodeInverts.j0 k a0 a2 true a1_0 a1_1 l1_2)) = some r := H
      have A9 := Aside0.mk A90
      clear A90
      by_cases c10 : t437 = true
      · subst c10
        have H1 : (dasdlaw20_NodeInverts.j0 k a0 a2 (decide ((a2.size : Int) > 600)) a1_0 a1_1 l1_2) = some r := by rw [if_pos rfl] at H; exact H
        clear H
        have H := H1
        clear H1
        have H' := Aside0.mk H
        clear H
        have hcz11_0 : w8.cell? ⟨gb435, 0, none⟩ = some (.int .i64 a1_0) := (blk_cell BK435.out 0).trans rfl
        have hcz11_1 : w8.cell? ⟨gb435, 1, none⟩ = some (.int .i64 a1_1) := (blk_cell BK435.out 1).trans rfl
        have hcz11_2 : w8.cell? ⟨gb435, 2, none⟩ = some (.slice A1_2 l1_2.length c1_2) := (blk_cell BK435.out 2).trans rfl
        have hfz11_0 := blk_frozen BK435.out 0
        have hfz11_1 := blk_frozen BK435.out 1
        have hfz11_2 := blk_frozen BK435.out 2
        go_wp2_with (first | ((with_reducible refine gate_callee (f := 15) rfl ?_); refine goesL_ (some 16) rfl rfl Try.func15 (by kernel_rfl) rfl #[.agg #[.int .i64 a1_0, .int .i64 a1_1, .slice A1_2 l1_2.length c1_2]] rfl (by (try simp only [List.map_toArray, List.map_cons, List.map_nil]); first | done | rfl | (simp only [List.length_drop, List.length_take]; rfl)) ?_; (with_reducible refine (dasdref20_Few.calls k a1_0 a1_1 _ _ l1_2 true _ ?side1 ?side2 A9.out).mono ?_); (case side1 => repeat (first | exact (Kd.C_below HR1_2.out HB.out) | (with_reducible refine Kd.C_alloc ?_ _) | (with_reducible refine Kd.C_drewN ?_ _) | (with_reducible refine Kd.C_drew ?_))); (case side2 => exact HC1_2.out); rintro e w12 ⟨rfl, hb⟩; refine ⟨_, rfl, ?_⟩; have n0_ := Aside0.mk (blk_below (g := gb435) (o := .cells #[.int .i64 a1_0, .int .i64 a1_1, .slice A1_2 l1_2.length c1_2] 24 (0, 0)) (by (with_reducible repeat (first | refine blk_drewN ?_ _ | refine blk_drew ?_ | refine blk_alloc ?_ _)); exact BK435.out) hb); have n1_ := Aside0.mk (below_step (by repeat (first | (with_reducible first | exact HB.out | apply below_alloc | apply pw_below_drewN | apply below_drew1 | refine below_set ?_ GE435.out) | exact HB.out)) hb); clear BK435; clear HB; have BK435 := n0_; have HB := n1_; clear n0_ n1_; (try clear hb); (try clear hb2); (try clear hk); (try clear hi)))
        go_meet
        case rel => exact ⟨_, (decide ((a2.size : Int) > 600)), (by first | rfl | (simp; done) | (simp [*]; done)), H', ⟨by first | omega | exact Nat.le_refl _⟩, ⟨by (with_reducible repeat (first | refine blk_drewN ?_ _ | refine blk_drew ?_ | refine blk_alloc ?_ _)); exact BK435.out⟩, ⟨by repeat (first | (with_reducible first | exact HB.out | apply below_alloc | apply pw_below_drewN | apply below_drew1 | refine below_set ?_ GE435.out) | exact HB.out)⟩⟩
      · replace c10 := Bool.eq_false_iff.mpr c10
        subst c10
        have H1 : (dasdlaw20_NodeInverts.j0 k a0 a2 true a1_0 a1_1 l1_2) = some r := by rw [if_neg (show ¬ (false = true) by decide)] at H; exact H
        clear H
        have H := H1
        clear H1
        have H' := Aside0.mk H
        clear H
        have hcz13_0 : w8.cell? ⟨gb435, 0, none⟩ = some (.int .i64 a1_0) := (blk_cell BK435.out 0).trans rfl
        have hcz13_1 : w8.cell? ⟨gb435, 1, none⟩ = some (.int .i64 a1_1) := (blk_cell BK435.out 1).trans rfl
        have hcz13_2 : w8.cell? ⟨gb435, 2, none⟩ = some (.slice A1_2 l1_2.length c1_2) := (blk_cell BK435.out 2).trans rfl
        have hfz13_0 := blk_frozen BK435.out 0
        have hfz13_1 := blk_frozen BK435.out 1
        have hfz13_2 := blk_frozen BK435.out 2
        go_wp2_with (first | ((with_reducible refine gate_callee (f := 15) rfl ?_); refine goesL_ (some 16) rfl rfl Try.func15 (by kernel_rfl) rfl #[.agg #[.int .i64 a1_0, .int .i64 a1_1, .slice A1_2 l1_2.length c1_2]] rfl (by (try simp only [List.map_toArray, List.map_cons, List.map_nil]); first | done | rfl | (simp only [List.length_drop, List.length_take]; rfl)) ?_; (with_reducible refine (dasdref20_Few.calls k a1_0 a1_1 _ _ l1_2 false _ ?side1 ?side2 A9.out).mono ?_); (case side1 => repeat (first | exact (Kd.C_below HR1_2.out HB.out) | (with_reducible refine Kd.C_alloc ?_ _) | (with_reducible refine Kd.C_drewN ?_ _) | (with_reducible refine Kd.C_drew ?_))); (case side2 => exact HC1_2.out); rintro e w14 ⟨rfl, hb⟩; refine ⟨_, rfl, ?_⟩; have n0_ := Aside0.mk (blk_below (g := gb435) (o := .cells #[.int .i64 a1_0, .int .i64 a1_1, .slice A1_2 l1_2.length c1_2] 24 (0, 0)) (by (with_reducible repeat (first | refine blk_drewN ?_ _ | refine blk_drew ?_ | refine blk_alloc ?_ _)); exact BK435.out) hb); have n1_ := Aside0.mk (below_step (by repeat (first | (with_reducible first | exact HB.out | apply below_alloc | apply pw_below_drewN | apply below_drew1 | refine below_set ?_ GE435.out) | exact HB.out)) hb); clear BK435; clear HB; have BK435 := n0_; have HB := n1_; clear n0_ n1_; (try clear hb); (try clear hb2); (try clear hk); (try clear hi)))
        go_meet
        case rel => exact ⟨_, (true), (by first | rfl | (simp; done) | (simp [*]; done)), H', ⟨by first | omega | exact Nat.le_refl _⟩, ⟨by (with_reducible repeat (first | refine blk_drewN ?_ _ | refine blk_drew ?_ | refine blk_alloc ?_ _)); exact BK435.out⟩, ⟨by repeat (first | (with_reducible first | exact HB.out | apply below_alloc | apply pw_below_drewN | apply below_drew1 | refine below_set ?_ GE435.out) | exact HB.out)⟩⟩
    case rest =>
      clear HC6
      try clear c1
      try clear p2
      try clear c5
      try clear c8
      try clear c10
      try clear hcz11_0
      try clear hcz11_1
      try clear hcz11_2
      try clear hcz13_0
      try clear hcz13_1
      try clear hcz13_2
      try clear hfz11_0
      try clear hfz11_1
      try clear hfz11_2
      try clear hfz13_0
      try clear hfz13_1
      try clear hfz13_2
      obtain ⟨kq, x22_5, rfl, HA, HJ5, BK435, HB⟩ := hcut
      cases kq with
      | zero => exact absurd HA.out (by simp [dasdlaw20_NodeInverts.j0])
      | succ kj5 =>
        have H := HA.out
        clear HA
        simp only [dasdlaw20_NodeInverts.j0] at H
        by_cases c15 : x22_5 = true
        · subst c15
          have H1 : (some true) = some r := by rw [if_pos rfl] at H; exact H
          clear H
          have H := H1
          clear H1
          obtain rfl := Option.some.inj H
          go_wp2
          go_ret
          exact ⟨by first | rfl | (simp [errW_none, errW_some] <;> rfl) | (simp [*, errW_none, errW_some] <;> rfl), by repeat (first | (with_reducible first | exact HB.out | apply below_alloc | apply pw_below_drewN | apply below_drew1 | refine below_set ?_ GE435.out) | exact HB.out)⟩
        · replace c15 := Bool.eq_false_iff.mpr c15
          subst c15
          have H1 : ((node_Encode.f kj5 a0 a1_0 a1_1 l1_2).bind fun bt438 => ((node_Valid.f kj5 a0 a1_0 a1_1 l1_2).bind fun t440 => (if ((bt438.2 == 0) != t440) = true then (some false) else (if bt438.2 = 0 then ((node_Decode.f kj5 a0 bt438.1).bind fun bt441 => (if bt441.2.2.2 = 0 then (if (bt438.1.size : Int) = a0 then ((dasdref20_Same.f kj5 a1_0 a1_1 l1_2 bt441.1 bt441.2.1 bt441.2.2.1).bind fun t448 => (if t448 = true then ((node_Size.f kj5 a1_0 a1_1 l1_2).bind fun t449 => (if t449 > a0 then (some false) else (dasdlaw20_NodeInverts.j1 kj5 a0 a2))) else (some false))) else (some false)) else (some false))) else (dasdlaw20_NodeInverts.j1 kj5 a0 a2))))) = some r := by rw [if_neg (show ¬ (false = true) by decide)] at H; exact H
          clear H
          have H := H1
          clear H1
          replace H := Option.bind_eq_some_iff.mp H
          obtain ⟨⟨t438, t439⟩, A160, H⟩ := H
          replace H : ((node_Valid.f kj5 a0 a1_0 a1_1 l1_2).bind fun t440 => (if ((t439 == 0) != t440) = true then (some false) else (if t439 = 0 then ((node_Decode.f kj5 a0 t438).bind fun bt441 => (if bt441.2.2.2 = 0 then (if (t438.size : Int) = a0 then ((dasdref20_Same.f kj5 a1_0 a1_1 l1_2 bt441.1 bt441.2.1 bt441.2.2.1).bind fun t448 => (if t448 = true then ((node_Size.f kj5 a1_0 a1_1 l1_2).bind fun t449 => (if t449 > a0 then (some false) else (dasdlaw20_NodeInverts.j1 kj5 a0 a2))) else (some false))) else (some false)) else (some false))) else (dasdlaw20_NodeInverts.j1 kj5 a0 a2)))) = some r := H
          have A16 := Aside0.mk A160
          clear A160
          replace H := Option.bind_eq_some_iff.mp H
          obtain ⟨t440, A170, H⟩ := H
          replace H : (if ((t439 == 0) != t440) = true then (some false) else (if t439 = 0 then ((node_Decode.f kj5 a0 t438).bind fun bt441 => (if bt441.2.2.2 = 0 then (if (t438.size : Int) = a0 then ((dasdref20_Same.f kj5 a1_0 a1_1 l1_2 bt441.1 bt441.2.1 bt441.2.2.1).bind fun t448 => (if t448 = true then ((node_Size.f kj5 a1_0 a1_1 l1_2).bind fun t449 => (if t449 > a0 then (some false) else (dasdlaw20_NodeInverts.j1 kj5 a0 a2))) else (some false))) else (some false)) else (some false))) else (dasdlaw20_NodeInverts.j1 kj5 a0 a2))) = some r := H
          have A17 := Aside0.mk A170
          clear A170
          by_cases c18 : ((t439 == 0) != t440) = true
          · rw [if_pos c18] at H
            have c18b0 : ((t439 == 0) != t440) = true := c18
            (try (have c18b1 : decide ((t439 == 0) = t440) = false := by simpa using c18))
            (try (have c18b2 : ((t439 == 0) == t440) = false := by simpa using c18))
            (try (have c18b3 : ¬ ((t439 == 0) = t440) := by simpa using c18))
            clear c18
            obtain rfl := Option.some.inj H
            have hcz19_0 : wc.cell? ⟨gb435, 0, none⟩ = some (.int .i64 a1_0) := (blk_cell BK435.out 0).trans rfl
            have hcz19_1 : wc.cell? ⟨gb435, 1, none⟩ = some (.int .i64 a1_1) := (blk_cell BK435.out 1).trans rfl
            have hcz19_2 : wc.cell? ⟨gb435, 2, none⟩ = some (.slice A1_2 l1_2.length c1_2) := (blk_cell BK435.out 2).trans rfl
            have hfz19_0 := blk_frozen BK435.out 0
            have hfz19_1 := blk_frozen BK435.out 1
            have hfz19_2 := blk_frozen BK435.out 2
            go_wp2_with (first | ((with_reducible refine gate_callee (f := 23) rfl ?_); refine goesL_ (some 26) rfl rfl Try.func23 (by kernel_rfl) rfl #[.int .i64 a0, .agg #[.int .i64 a1_0, .int .i64 a1_1, .slice A1_2 l1_2.length c1_2]] rfl (by (try simp only [List.map_toArray, List.map_cons, List.map_nil]); first | done | rfl | (simp only [List.length_drop, List.length_take]; rfl)) ?_; (with_reducible refine (node_Encode.calls kj5 a0 a1_0 a1_1 _ _ l1_2 t438 t439 _ ?side1 ?side2 A16.out).mono ?_); (case side1 => repeat (first | exact (Kd.C_below HR1_2.out HB.out) | (with_reducible refine Kd.C_alloc ?_ _) | (with_reducible refine Kd.C_drewN ?_ _) | (with_reducible refine Kd.C_drew ?_))); (case side2 => exact HC1_2.out); rintro e w20 ⟨rfl, hb⟩; refine ⟨_, rfl, ?_⟩; have n0_ := Aside0.mk (blk_below (g := gb435) (o := .cells #[.int .i64 a1_0, .int .i64 a1_1, .slice A1_2 l1_2.length c1_2] 24 (0, 0)) (by (with_reducible repeat (first | refine blk_drewN ?_ _ | refine blk_drew ?_ | refine blk_alloc ?_ _)); exact BK435.out) hb); have n1_ := Aside0.mk (below_step (by repeat (first | (with_reducible first | exact HB.out | apply below_alloc | apply pw_below_drewN | apply below_drew1 | refine below_set ?_ GE435.out) | exact HB.out)) hb); clear BK435; clear HB; have BK435 := n0_; have HB := n1_; clear n0_ n1_; (try clear hb); (try clear hb2); (try clear hk); (try clear hi); have hcz21_0 : w20.cell? ⟨gb435, 0, none⟩ = some (.int .i64 a1_0) := (blk_cell BK435.out 0).trans rfl; have hcz21_1 : w20.cell? ⟨gb435, 1, none⟩ = some (.int .i64 a1_1) := (blk_cell BK435.out 1).trans rfl; have hcz21_2 : w20.cell? ⟨gb435, 2, none⟩ = some (.slice A1_2 l1_2.length c1_2) := (blk_cell BK435.out 2).trans rfl; have hfz21_0 := blk_frozen BK435.out 0; have hfz21_1 := blk_frozen BK435.out 1; have hfz21_2 := blk_frozen BK435.out 2) | ((with_reducible refine gate_callee (f := 27) rfl ?_); refine goesL_ (some 33) rfl rfl Try.func27 (by kernel_rfl) rfl #[.int .i64 a0, .agg #[.int .i64 a1_0, .int .i64 a1_1, .slice A1_2 l1_2.length c1_2]] rfl (by (try simp only [List.map_toArray, List.map_cons, List.map_nil]); first | done | rfl | (simp only [List.length_drop, List.length_take]; rfl)) ?_; (with_reducible refine (node_Valid.calls kj5 a0 a1_0 a1_1 _ _ l1_2 t440 _ ?side1 ?side2 A17.out).mono ?_); (case side1 => repeat (first | exact (Kd.C_below HR1_2.out HB.out) | (with_reducible refine Kd.C_alloc ?_ _) | (with_reducible refine Kd.C_drewN ?_ _) | (with_reducible refine Kd.C_drew ?_))); (case side2 => exact HC1_2.out); rintro e w22 ⟨rfl, hb⟩; refine ⟨_, rfl, ?_⟩; have n0_ := Aside0.mk (blk_below (g := gb435) (o := .cells #[.int .i64 a1_0, .int .i64 a1_1, .slice A1_2 l1_2.length c1_2] 24 (0, 0)) (by (with_reducible repeat (first | refine blk_drewN ?_ _ | refine blk_drew ?_ | refine blk_alloc ?_ _)); exact BK435.out) hb); have n1_ := Aside0.mk (below_step (by repeat (first | (with_reducible first | exact HB.out | apply below_alloc | apply pw_below_drewN | apply below_drew1 | refine below_set ?_ GE435.out) | exact HB.out)) hb); clear BK435; clear HB; have BK435 := n0_; have HB := n1_; clear n0_ n1_; (try clear hb); (try clear hb2); (try clear hk); (try clear hi)))
            go_ret
            exact ⟨by first | rfl | (simp [errW_none, errW_some] <;> rfl) | (simp [*, errW_none, errW_some] <;> rfl), by repeat (first | (with_reducible first | exact HB.out | apply below_alloc | apply pw_below_drewN | apply below_drew1 | refine below_set ?_ GE435.out) | exact HB.out)⟩
          · rw [if_neg c18] at H
            have c18b0 : ((t439 == 0) != t440) = false := by simpa using c18
            (try (have c18b1 : decide ((t439 == 0) = t440) = true := by simpa using c18))
            (try (have c18b2 : ((t439 == 0) == t440) = true := by simpa using c18))
            clear c18
            have HC23 := Aside0.mk H
            clear H
            have hcz24_0 : wc.cell? ⟨gb435, 0, none⟩ = some (.int .i64 a1_0) := (blk_cell BK435.out 0).trans rfl
            have hcz24_1 : wc.cell? ⟨gb435, 1, none⟩ = some (.int .i64 a1_1) := (blk_cell BK435.out 1).trans rfl
            have hcz24_2 : wc.cell? ⟨gb435, 2, none⟩ = some (.slice A1_2 l1_2.length c1_2) := (blk_cell BK435.out 2).trans rfl
            have hfz24_0 := blk_frozen BK435.out 0
            have hfz24_1 := blk_frozen BK435.out 1
            have hfz24_2 := blk_frozen BK435.out 2
            go_upto_if 36 with (first | ((with_reducible refine gate_callee (f := 23) rfl ?_); refine goesL_ (some 26) rfl rfl Try.func23 (by kernel_rfl) rfl #[.int .i64 a0, .agg #[.int .i64 a1_0, .int .i64 a1_1, .slice A1_2 l1_2.length c1_2]] rfl (by (try simp only [List.map_toArray, List.map_cons, List.map_nil]); first | done | rfl | (simp only [List.length_drop, List.length_take]; rfl)) ?_; (with_reducible refine (node_Encode.calls kj5 a0 a1_0 a1_1 _ _ l1_2 t438 t439 _ ?side1 ?side2 A16.out).mono ?_); (case side1 => repeat (first | exact (Kd.C_below HR1_2.out HB.out) | (with_reducible refine Kd.C_alloc ?_ _) | (with_reducible refine Kd.C_drewN ?_ _) | (with_reducible refine Kd.C_drew ?_))); (case side2 => exact HC1_2.out); rintro e w25 ⟨rfl, hb⟩; refine ⟨_, rfl, ?_⟩; have n0_ := Aside0.mk (blk_below (g := gb435) (o := .cells #[.int .i64 a1_0, .int .i64 a1_1, .slice A1_2 l1_2.length c1_2] 24 (0, 0)) (by (with_reducible repeat (first | refine blk_drewN ?_ _ | refine blk_drew ?_ | refine blk_alloc ?_ _)); exact BK435.out) hb); have n1_ := Aside0.mk (below_step (by repeat (first | (with_reducible first | exact HB.out | apply below_alloc | apply pw_below_drewN | apply below_drew1 | refine below_set ?_ GE435.out) | exact HB.out)) hb); clear BK435; clear HB; have BK435 := n0_; have HB := n1_; clear n0_ n1_; (try clear hb); (try clear hb2); (try clear hk); (try clear hi); have hcz26_0 : w25.cell? ⟨gb435, 0, none⟩ = some (.int .i64 a1_0) := (blk_cell BK435.out 0).trans rfl; have hcz26_1 : w25.cell? ⟨gb435, 1, none⟩ = some (.int .i64 a1_1) := (blk_cell BK435.out 1).trans rfl; have hcz26_2 : w25.cell? ⟨gb435, 2, none⟩ = some (.slice A1_2 l1_2.length c1_2) := (blk_cell BK435.out 2).trans rfl; have hfz26_0 := blk_frozen BK435.out 0; have hfz26_1 := blk_frozen BK435.out 1; have hfz26_2 := blk_frozen BK435.out 2) | ((with_reducible refine gate_callee (f := 27) rfl ?_); refine goesL_ (some 33) rfl rfl Try.func27 (by kernel_rfl) rfl #[.int .i64 a0, .agg #[.int .i64 a1_0, .int .i64 a1_1, .slice A1_2 l1_2.length c1_2]] rfl (by (try simp only [List.map_toArray, List.map_cons, List.map_nil]); first | done | rfl | (simp only [List.length_drop, List.length_take]; rfl)) ?_; (with_reducible refine (node_Valid.calls kj5 a0 a1_0 a1_1 _ _ l1_2 t440 _ ?side1 ?side2 A17.out).mono ?_); (case side1 => repeat (first | exact (Kd.C_below HR1_2.out HB.out) | (with_reducible refine Kd.C_alloc ?_ _) | (with_reducible refine Kd.C_drewN ?_ _) | (with_reducible refine Kd.C_drew ?_))); (case side2 => exact HC1_2.out); rintro e w27 ⟨rfl, hb⟩; refine ⟨_, rfl, ?_⟩; have n0_ := Aside0.mk (blk_below (g := gb435) (o := .cells #[.int .i64 a1_0, .int .i64 a1_1, .slice A1_2 l1_2.length c1_2] 24 (0, 0)) (by (with_reducible repeat (first | refine blk_drewN ?_ _ | refine blk_drew ?_ | refine blk_alloc ?_ _)); exact BK435.out) hb); have n1_ := Aside0.mk (below_step (by repeat (first | (with_reducible first | exact HB.out | apply below_alloc | apply pw_below_drewN | apply below_drew1 | refine below_set ?_ GE435.out) | exact HB.out)) hb); clear BK435; clear HB; have BK435 := n0_; have HB := n1_; clear n0_ n1_; (try clear hb); (try clear hb2); (try clear hk); (try clear hi)))
            (try simp only [Act.put, List.setIfInBounds_toArray, List.set_cons_zero, List.set_cons_succ])
            go_cut [] (fun wc => ∃ (kq : Nat), Aside0 (dasdlaw20_NodeInverts.j1 kq a0 a2 = some r) ∧ Aside0 (kq ≤ kj5) ∧ Aside0 (wc.heap[gb435]? = some (.cells #[.int .i64 a1_0, .int .i64 a1_1, (.slice A1_2 l1_2.length c1_2)] 24 (0, 0))) ∧ Aside0 (Below w.heap.size w wc))
            case first =>
              have H := HC23.out
              clear HC23
              by_cases c28 : t439 = 0
              · rw [if_pos c28] at H
                have c28b0 : (t439 == 0) = true := beq_iff_eq.mpr c28
                have c28b1 : (t439 != 0) = false := bne_eq_false_iff_eq.mpr c28
                clear c28
                (first | rw [c28b0] | (simp only [i64_w, i32_w]; rw [c28b0]) | skip)
                replace H := Option.bind_eq_some_iff.mp H
                obtain ⟨⟨t441, t442, t443, t446⟩, A290, H⟩ := H
                replace H : (if t446 = 0 then (if (t438.size : Int) = a0 then ((dasdref20_Same.f kj5 a1_0 a1_1 l1_2 t441 t442 t443).bind fun t448 => (if t448 = true then ((node_Size.f kj5 a1_0 a1_1 l1_2).bind fun t449 => (if t449 > a0 then (some false) else (dasdlaw20_NodeInverts.j1 kj5 a0 a2))) else (some false))) else (some false)) else (some false)) = some r := H
                have A29 := Aside0.mk A290
                clear A290
                by_cases c30 : t446 = 0
                · rw [if_pos c30] at H
                  have c30b0 : (t446 == 0) = true := beq_iff_eq.mpr c30
                  have c30b1 : (t446 != 0) = false := bne_eq_false_iff_eq.mpr c30
                  clear c30
                  by_cases c31 : (t438.size : Int) = a0
                  · rw [if_pos c31] at H
                    have c31b0 : ((t438.size : Int) == a0) = true := beq_iff_eq.mpr c31
                    have c31b1 : ((t438.size : Int) != a0) = false := bne_eq_false_iff_eq.mpr c31
                    clear c31
                    replace H := Option.bind_eq_some_iff.mp H
                    obtain ⟨t448, A320, H⟩ := H
                    replace H : (if t448 = true then ((node_Size.f kj5 a1_0 a1_1 l1_2).bind fun t449 => (if t449 > a0 then (some false) else (dasdlaw20_NodeInverts.j1 kj5 a0 a2))) else (some false)) = some r := H
                    have A32 := Aside0.mk A320
                    clear A320
                    by_cases c33 : t448 = true
                    · subst c33
                      have H1 : ((node_Size.f kj5 a1_0 a1_1 l1_2).bind fun t449 => (if t449 > a0 then (some false) else (dasdlaw20_NodeInverts.j1 kj5 a0 a2))) = some r := by rw [if_pos rfl] at H; exact H
                      clear H
                      have H := H1
                      clear H1
                      replace H := Option.bind_eq_some_iff.mp H
                      obtain ⟨t449, A340, H⟩ := H
                      replace H : (if t449 > a0 then (some false) else (dasdlaw20_NodeInverts.j1 kj5 a0 a2)) = some r := H
                      have A34 := Aside0.mk A340
                      clear A340
                      by_cases c35 : t449 > a0
                      · rw [if_pos c35] at H
                        have c35b0 : decide (a0 < t449) = true := decide_eq_true c35
                        clear c35
                        obtain rfl := Option.some.inj H
                        go_wp2_with (first | ((with_reducible refine gate_callee (f := 21) rfl ?_); refine goesL_ (some 40) rfl rfl Try.func21 (by kernel_rfl) rfl #[.int .i64 a0, .string t438] rfl (by (try simp only [List.map_toArray, List.map_cons, List.map_nil]); first | done | rfl | (simp only [List.length_drop, List.length_take]; rfl)) ?_; (with_reducible refine (node_Decode.calls kj5 a0 t438 t441 t442 t443 t446 _ A29.out).mono ?_); rintro e w36 ⟨v444, rfl, ho0, hb⟩; refine ⟨_, rfl, ?_⟩; have n0_ := Aside0.mk (Kd.R_lower ho0 (below_size (by repeat (first | (with_reducible first | exact HB.out | apply below_alloc | apply pw_below_drewN | apply below_drew1 | refine below_set ?_ GE435.out) | exact HB.out)))); have n1_ := Aside0.mk (blk_below (g := gb435) (o := .cells #[.int .i64 a1_0, .int .i64 a1_1, .slice A1_2 l1_2.length c1_2] 24 (0, 0)) (by (with_reducible repeat (first | refine blk_drewN ?_ _ | refine blk_drew ?_ | refine blk_alloc ?_ _)); exact BK435.out) hb); have n2_ := Aside0.mk (below_step (by repeat (first | (with_reducible first | exact HB.out | apply below_alloc | apply pw_below_drewN | apply below_drew1 | refine below_set ?_ GE435.out) | exact HB.out)) hb); clear BK435; clear HB; have HO445 := n0_; have BK435 := n1_; have HB := n2_; clear n0_ n1_ n2_; (try clear hb); (try clear hb2); (try clear hk); (try clear hi); (try clear ho0)) | ((with_reducible refine gate_dst (N := 9) rfl ?_); (try (refine gate_guard (by rfl) ?_; dsimp only)); refine box_event ?hg (N := 9) ?hd (cs := #[.int .i64 0, .int .i64 0, .slice none 0 0]) (t := 24) ?hr ?_; (case hd => rfl); (case hg => rfl); (case hr => first | (go_simp; done) | (go_simp; rfl)); intro gb447 hg w37 hbox hb; have n0_ := Aside0.mk (Kd.R_below (by (with_reducible repeat (first | apply Kd.R_alloc | apply Kd.R_drewN | apply Kd.R_drew)); exact HO445.out) hb); have n1_ := Aside0.mk (blk_below (g := gb435) (o := .cells #[.int .i64 a1_0, .int .i64 a1_1, .slice A1_2 l1_2.length c1_2] 24 (0, 0)) (by (with_reducible repeat (first | refine blk_drewN ?_ _ | refine blk_drew ?_ | refine blk_alloc ?_ _)); exact BK435.out) hb); have n2_ := Aside0.mk (below_step (by repeat (first | (with_reducible first | exact HB.out | apply below_alloc | apply pw_below_drewN | apply below_drew1 | refine below_set ?_ GE435.out) | exact HB.out)) hb); have n3_ := Aside0.mk (hbox); have n4_ := Aside0.mk ((by rw [hg]; exact (below_size (by repeat (first | (with_reducible first | exact HB.out | apply below_alloc | apply pw_below_drewN | apply below_drew1 | refine below_set ?_ GE435.out) | exact HB.out))) : w.heap.size ≤ gb447)); have n5_ := Aside0.mk ((by rw [hg]; exact (below_size (by repeat (first | (with_reducible first | exact HB.out | apply below_alloc | apply pw_below_drewN | apply below_drew1 | refine below_set ?_ GE435.out) | exact HB.out))) : w.heap.size ≤ gb447)); have n6_ := Aside0.mk ((by rw [hg]; exact Nat.ne_of_lt (blk_lt (g := gb435) (o := .cells #[.int .i64 a1_0, .int .i64 a1_1, .slice A1_2 l1_2.length c1_2] 24 (0, 0)) (by (with_reducible repeat (first | refine blk_drewN ?_ _ | refine blk_drew ?_ | refine blk_alloc ?_ _)); exact BK435.out)) : gb435 ≠ gb447)); have n7_ := Aside0.mk ((by rw [hg]; exact Nat.ne_of_gt (blk_lt (g := gb435) (o := .cells #[.int .i64 a1_0, .int .i64 a1_1, .slice A1_2 l1_2.length c1_2] 24 (0, 0)) (by (with_reducible repeat (first | refine blk_drewN ?_ _ | refine blk_drew ?_ | refine blk_alloc ?_ _)); exact BK435.out)) : gb447 ≠ gb435)); clear HO445; clear BK435; clear HB; have HO445 := n0_; have BK435 := n1_; have HB := n2_; have BK447 := n3_; have GW447 := n4_; have GE447 := n5_; have NB435_447 := n6_; have NB447_435 := n7_; clear n0_ n1_ n2_ n3_ n4_ n5_ n6_ n7_; clear hb hbox hg; have hnb38 := NB447_435.out; have hnc38 := NB435_447.out; have hcz39_0 : w37.cell? ⟨gb447, 0, none⟩ = some (.int .i64 0) := (blk_cell BK447.out 0).trans rfl; have hcz39_1 : w37.cell? ⟨gb447, 1, none⟩ = some (.int .i64 0) := (blk_cell BK447.out 1).trans rfl; have hcz39_2 : w37.cell? ⟨gb447, 2, none⟩ = some (.slice none 0 0) := (blk_cell BK447.out 2).trans rfl; have hfz39_0 := blk_frozen BK447.out 0; have hfz39_1 := blk_frozen BK447.out 1; have hfz39_2 := blk_frozen BK447.out 2; obtain ⟨Ao40, co40, eo40⟩ := Kd.R_slice HO445.out; subst eo40; have hcz41_0 : w37.cell? ⟨gb435, 0, none⟩ = some (.int .i64 a1_0) := (blk_cell BK435.out 0).trans rfl; have hcz41_1 : w37.cell? ⟨gb435, 1, none⟩ = some (.int .i64 a1_1) := (blk_cell BK435.out 1).trans rfl; have hcz41_2 : w37.cell? ⟨gb435, 2, none⟩ = some (.slice A1_2 l1_2.length c1_2) := (blk_cell BK435.out 2).trans rfl; have hfz41_0 := blk_frozen BK435.out 0; have hfz41_1 := blk_frozen BK435.out 1; have hfz41_2 := blk_frozen BK435.out 2) | (go_at_call 20; (with_reducible refine (dasdref20_Same.calls kj5 a1_0 a1_1 _ _ l1_2 t441 t442 _ _ t443 true _ ?side1 ?side2 ?side3 ?side4 A32.out).mono ?_); (case side1 => exact Kd.C_below HR1_2.out (by repeat (first | (with_reducible first | exact HB.out | apply below_alloc | apply pw_below_drewN | apply below_drew1 | refine below_set ?_ GE435.out | refine below_set ?_ GE447.out) | exact HB.out))); (case side2 => exact HC1_2.out); (case side3 => refine (Kd.R_reads' (e := 32) (base := w.heap.size) (ok := fun k_ => True) (n := t443.length) (c := co40) ?_).2.2; exact (by (with_reducible repeat (first | apply Kd.R_alloc | apply Kd.R_drewN | apply Kd.R_drew)); exact (Kd.R_mono (Kd.R_far (p := ⟨gb447, 2, none⟩) (Kd.R_far (p := ⟨gb447, 1, none⟩) (Kd.R_far (p := ⟨gb447, 0, none⟩) (Kd.R_types HO445.out BK447.out (by decide)) (fun _ hk => hk.2) (.int .i64 t441)) (fun _ hk => hk.2) (.int .i64 t442)) (fun _ hk => hk.2) (.slice Ao40 t443.length co40)) (fun _ h_ => h_.1)))); (case side4 => exact (Kd.R_reads' HO445.out).2.1); rintro e w42 ⟨rfl, hb⟩; have n0_ := Aside0.mk (Kd.R_below (by (with_reducible repeat (first | apply Kd.R_alloc | apply Kd.R_drewN | apply Kd.R_drew)); exact (Kd.R_mono (Kd.R_far (p := ⟨gb447, 2, none⟩) (Kd.R_far (p := ⟨gb447, 1, none⟩) (Kd.R_far (p := ⟨gb447, 0, none⟩) (Kd.R_types HO445.out BK447.out (by decide)) (fun _ hk => hk.2) (.int .i64 t441)) (fun _ hk => hk.2) (.int .i64 t442)) (fun _ hk => hk.2) (.slice Ao40 t443.length co40)) (fun _ h_ => h_.1))) hb); have n1_ := Aside0.mk (blk_below (g := gb435) (o := .cells #[.int .i64 a1_0, .int .i64 a1_1, .slice A1_2 l1_2.length c1_2] 24 (0, 0)) (by (with_reducible repeat (first | refine blk_drewN ?_ _ | refine blk_drew ?_ | refine blk_alloc ?_ _)); refine blk_far ?_ NB435_447.out _; (with_reducible repeat (first | refine blk_drewN ?_ _ | refine blk_drew ?_ | refine blk_alloc ?_ _)); refine blk_far ?_ NB435_447.out _; (with_reducible repeat (first | refine blk_drewN ?_ _ | refine blk_drew ?_ | refine blk_alloc ?_ _)); refine blk_far ?_ NB435_447.out _; (with_reducible repeat (first | refine blk_drewN ?_ _ | refine blk_drew ?_ | refine blk_alloc ?_ _)); exact BK435.out) hb); have n2_ := Aside0.mk (blk_below (g := gb447) (o := .cells #[.int .i64 t441, .int .i64 t442, .slice Ao40 t443.length co40] 24 (0, 0)) (by (with_reducible repeat (first | refine blk_drewN ?_ _ | refine blk_drew ?_ | refine blk_alloc ?_ _)); refine blk_put (cs := #[.int .i64 t441, .int .i64 t442, .slice none 0 0]) ?_ 2 _ rfl; (with_reducible repeat (first | refine blk_drewN ?_ _ | refine blk_drew ?_ | refine blk_alloc ?_ _)); refine blk_put (cs := #[.int .i64 t441, .int .i64 0, .slice none 0 0]) ?_ 1 _ rfl; (with_reducible repeat (first | refine blk_drewN ?_ _ | refine blk_drew ?_ | refine blk_alloc ?_ _)); refine blk_put (cs := #[.int .i64 0, .int .i64 0, .slice none 0 0]) ?_ 0 _ rfl; (with_reducible repeat (first | refine blk_drewN ?_ _ | refine blk_drew ?_ | refine blk_alloc ?_ _)); exact BK447.out) hb); have n3_ := Aside0.mk (below_step (by repeat (first | (with_reducible first | exact HB.out | apply below_alloc | apply pw_below_drewN | apply below_drew1 | refine below_set ?_ GE435.out | refine below_set ?_ GE447.out) | exact HB.out)) hb); clear HO445; clear BK435; clear BK447; clear HB; have HO445 := n0_; have BK435 := n1_; have BK447 := n2_; have HB := n3_; clear n0_ n1_ n2_ n3_; (try clear hb); (try clear hb2); (try clear hk); (try clear hi); have hcz43_0 : w42.cell? ⟨gb435, 0, none⟩ = some (.int .i64 a1_0) := (blk_cell BK435.out 0).trans rfl; have hcz43_1 : w42.cell? ⟨gb435, 1, none⟩ = some (.int .i64 a1_1) := (blk_cell BK435.out 1).trans rfl; have hcz43_2 : w42.cell? ⟨gb435, 2, none⟩ = some (.slice A1_2 l1_2.length c1_2) := (blk_cell BK435.out 2).trans rfl; have hfz43_0 := blk_frozen BK435.out 0; have hfz43_1 := blk_frozen BK435.out 1; have hfz43_2 := blk_frozen BK435.out 2) | (go_at_call 25; (with_reducible refine (node_Size.calls kj5 a1_0 a1_1 _ _ l1_2 t449 _ ?side1 ?side2 A34.out).mono ?_); (case side1 => repeat (first | exact (Kd.C_below HR1_2.out HB.out) | (with_reducible refine Kd.C_alloc ?_ _) | (with_reducible refine Kd.C_drewN ?_ _) | (with_reducible refine Kd.C_drew ?_))); (case side2 => exact HC1_2.out); rintro e w44 ⟨rfl, hb⟩; have n0_ := Aside0.mk (Kd.R_below (by (with_reducible repeat (first | apply Kd.R_alloc | apply Kd.R_drewN | apply Kd.R_drew)); exact HO445.out) hb); have n1_ := Aside0.mk (blk_below (g := gb435) (o := .cells #[.int .i64 a1_0, .int .i64 a1_1, .slice A1_2 l1_2.length c1_2] 24 (0, 0)) (by (with_reducible repeat (first | refine blk_drewN ?_ _ | refine blk_drew ?_ | refine blk_alloc ?_ _)); exact BK435.out) hb); have n2_ := Aside0.mk (blk_below (g := gb447) (o := .cells #[.int .i64 t441, .int .i64 t442, .slice Ao40 t443.length co40] 24 (0, 0)) (by (with_reducible repeat (first | refine blk_drewN ?_ _ | refine blk_drew ?_ | refine blk_alloc ?_ _)); exact BK447.out) hb); have n3_ := Aside0.mk (below_step (by repeat (first | (with_reducible first | exact HB.out | apply below_alloc | apply pw_below_drewN | apply below_drew1 | refine below_set ?_ GE435.out | refine below_set ?_ GE447.out) | exact HB.out)) hb); clear HO445; clear BK435; clear BK447; clear HB; have HO445 := n0_; have BK435 := n1_; have BK447 := n2_; have HB := n3_; clear n0_ n1_ n2_ n3_; (try clear hb); (try clear hb2); (try clear hk); (try clear hi)))
                        go_ret
                        exact ⟨by first | rfl | (simp [errW_none, errW_some] <;> rfl) | (simp [*, errW_none, errW_some] <;> rfl), by repeat (first | (with_reducible first | exact HB.out | apply below_alloc | apply pw_below_drewN | apply below_drew1 | refine below_set ?_ GE435.out | refine below_set ?_ GE447.out) | exact HB.out)⟩
                      · rw [if_neg c35] at H
                        have c35b0 : decide (a0 < t449) = false := decide_eq_false c35
                        clear c35
                        have H' := Aside0.mk H
                        clear H
                        go_wp2_with (first | ((with_reducible refine gate_callee (f := 21) rfl ?_); refine goesL_ (some 40) rfl rfl Try.func21 (by kernel_rfl) rfl #[.int .i64 a0, .string t438] rfl (by (try simp only [List.map_toArray, List.map_cons, List.map_nil]); first | done | rfl | (simp only [List.length_drop, List.length_take]; rfl)) ?_; (with_reducible refine (node_Decode.calls kj5 a0 t438 t441 t442 t443 t446 _ A29.out).mono ?_); rintro e w45 ⟨v444, rfl, ho0, hb⟩; refine ⟨_, rfl, ?_⟩; have n0_ := Aside0.mk (Kd.R_lower ho0 (below_size (by repeat (first | (with_reducible first | exact HB.out | apply below_alloc | apply pw_below_drewN | apply below_drew1 | refine below_set ?_ GE435.out) | exact HB.out)))); have n1_ := Aside0.mk (blk_below (g := gb435) (o := .cells #[.int .i64 a1_0, .int .i64 a1_1, .slice A1_2 l1_2.length c1_2] 24 (0, 0)) (by (with_reducible repeat (first | refine blk_drewN ?_ _ | refine blk_drew ?_ | refine blk_alloc ?_ _)); exact BK435.out) hb); have n2_ := Aside0.mk (below_step (by repeat (first | (with_reducible first | exact HB.out | apply below_alloc | apply pw_below_drewN | apply below_drew1 | refine below_set ?_ GE435.out) | exact HB.out)) hb); clear BK435; clear HB; have HO445 := n0_; have BK435 := n1_; have HB := n2_; clear n0_ n1_ n2_; (try clear hb); (try clear hb2); (try clear hk); (try clear hi); (try clear ho0)) | ((with_reducible refine gate_dst (N := 9) rfl ?_); (try (refine gate_guard (by rfl) ?_; dsimp only)); refine box_event ?hg (N := 9) ?hd (cs := #[.int .i64 0, .int .i64 0, .slice none 0 0]) (t := 24) ?hr ?_; (case hd => rfl); (case hg => rfl); (case hr => first | (go_simp; done) | (go_simp; rfl)); intro gb447 hg w46 hbox hb; have n0_ := Aside0.mk (Kd.R_below (by (with_reducible repeat (first | apply Kd.R_alloc | apply Kd.R_drewN | apply Kd.R_drew)); exact HO445.out) hb); have n1_ := Aside0.mk (blk_below (g := gb435) (o := .cells #[.int .i64 a1_0, .int .i64 a1_1, .slice A1_2 l1_2.length c1_2] 24 (0, 0)) (by (with_reducible repeat (first | refine blk_drewN ?_ _ | refine blk_drew ?_ | refine blk_alloc ?_ _)); exact BK435.out) hb); have n2_ := Aside0.mk (below_step (by repeat (first | (with_reducible first | exact HB.out | apply below_alloc | apply pw_below_drewN | apply below_drew1 | refine below_set ?_ GE435.out) | exact HB.out)) hb); have n3_ := Aside0.mk (hbox); have n4_ := Aside0.mk ((by rw [hg]; exact (below_size (by repeat (first | (with_reducible first | exact HB.out | apply below_alloc | apply pw_below_drewN | apply below_drew1 | refine below_set ?_ GE435.out) | exact HB.out))) : w.heap.size ≤ gb447)); have n5_ := Aside0.mk ((by rw [hg]; exact (below_size (by repeat (first | (with_reducible first | exact HB.out | apply below_alloc | apply pw_below_drewN | apply below_drew1 | refine below_set ?_ GE435.out) | exact HB.out))) : w.heap.size ≤ gb447)); have n6_ := Aside0.mk ((by rw [hg]; exact Nat.ne_of_lt (blk_lt (g := gb435) (o := .cells #[.int .i64 a1_0, .int .i64 a1_1, .slice A1_2 l1_2.length c1_2] 24 (0, 0)) (by (with_reducible repeat (first | refine blk_drewN ?_ _ | refine blk_drew ?_ | refine blk_alloc ?_ _)); exact BK435.out)) : gb435 ≠ gb447)); have n7_ := Aside0.mk ((by rw [hg]; exact Nat.ne_of_gt (blk_lt (g := gb435) (o := .cells #[.int .i64 a1_0, .int .i64 a1_1, .slice A1_2 l1_2.length c1_2] 24 (0, 0)) (by (with_reducible repeat (first | refine blk_drewN ?_ _ | refine blk_drew ?_ | refine blk_alloc ?_ _)); exact BK435.out)) : gb447 ≠ gb435)); clear HO445; clear BK435; clear HB; have HO445 := n0_; have BK435 := n1_; have HB := n2_; have BK447 := n3_; have GW447 := n4_; have GE447 := n5_; have NB435_447 := n6_; have NB447_435 := n7_; clear n0_ n1_ n2_ n3_ n4_ n5_ n6_ n7_; clear hb hbox hg; have hnb47 := NB447_435.out; have hnc47 := NB435_447.out; have hcz48_0 : w46.cell? ⟨gb447, 0, none⟩ = some (.int .i64 0) := (blk_cell BK447.out 0).trans rfl; have hcz48_1 : w46.cell? ⟨gb447, 1, none⟩ = some (.int .i64 0) := (blk_cell BK447.out 1).trans rfl; have hcz48_2 : w46.cell? ⟨gb447, 2, none⟩ = some (.slice none 0 0) := (blk_cell BK447.out 2).trans rfl; have hfz48_0 := blk_frozen BK447.out 0; have hfz48_1 := blk_frozen BK447.out 1; have hfz48_2 := blk_frozen BK447.out 2; obtain ⟨Ao49, co49, eo49⟩ := Kd.R_slice HO445.out; subst eo49; have hcz50_0 : w46.cell? ⟨gb435, 0, none⟩ = some (.int .i64 a1_0) := (blk_cell BK435.out 0).trans rfl; have hcz50_1 : w46.cell? ⟨gb435, 1, none⟩ = some (.int .i64 a1_1) := (blk_cell BK435.out 1).trans rfl; have hcz50_2 : w46.cell? ⟨gb435, 2, none⟩ = some (.slice A1_2 l1_2.length c1_2) := (blk_cell BK435.out 2).trans rfl; have hfz50_0 := blk_frozen BK435.out 0; have hfz50_1 := blk_frozen BK435.out 1; have hfz50_2 := blk_frozen BK435.out 2) | (go_at_call 20; (with_reducible refine (dasdref20_Same.calls kj5 a1_0 a1_1 _ _ l1_2 t441 t442 _ _ t443 true _ ?side1 ?side2 ?side3 ?side4 A32.out).mono ?_); (case side1 => exact Kd.C_below HR1_2.out (by repeat (first | (with_reducible first | exact HB.out | apply below_alloc | apply pw_below_drewN | apply below_drew1 | refine below_set ?_ GE435.out | refine below_set ?_ GE447.out) | exact HB.out))); (case side2 => exact HC1_2.out); (case side3 => refine (Kd.R_reads' (e := 32) (base := w.heap.size) (ok := fun k_ => True) (n := t443.length) (c := co49) ?_).2.2; exact (by (with_reducible repeat (first | apply Kd.R_alloc | apply Kd.R_drewN | apply Kd.R_drew)); exact (Kd.R_mono (Kd.R_far (p := ⟨gb447, 2, none⟩) (Kd.R_far (p := ⟨gb447, 1, none⟩) (Kd.R_far (p := ⟨gb447, 0, none⟩) (Kd.R_types HO445.out BK447.out (by decide)) (fun _ hk => hk.2) (.int .i64 t441)) (fun _ hk => hk.2) (.int .i64 t442)) (fun _ hk => hk.2) (.slice Ao49 t443.length co49)) (fun _ h_ => h_.1)))); (case side4 => exact (Kd.R_reads' HO445.out).2.1); rintro e w51 ⟨rfl, hb⟩; have n0_ := Aside0.mk (Kd.R_below (by (with_reducible repeat (first | apply Kd.R_alloc | apply Kd.R_drewN | apply Kd.R_drew)); exact (Kd.R_mono (Kd.R_far (p := ⟨gb447, 2, none⟩) (Kd.R_far (p := ⟨gb447, 1, none⟩) (Kd.R_far (p := ⟨gb447, 0, none⟩) (Kd.R_types HO445.out BK447.out (by decide)) (fun _ hk => hk.2) (.int .i64 t441)) (fun _ hk => hk.2) (.int .i64 t442)) (fun _ hk => hk.2) (.slice Ao49 t443.length co49)) (fun _ h_ => h_.1))) hb); have n1_ := Aside0.mk (blk_below (g := gb435) (o := .cells #[.int .i64 a1_0, .int .i64 a1_1, .slice A1_2 l1_2.length c1_2] 24 (0, 0)) (by (with_reducible repeat (first | refine blk_drewN ?_ _ | refine blk_drew ?_ | refine blk_alloc ?_ _)); refine blk_far ?_ NB435_447.out _; (with_reducible repeat (first | refine blk_drewN ?_ _ | refine blk_drew ?_ | refine blk_alloc ?_ _)); refine blk_far ?_ NB435_447.out _; (with_reducible repeat (first | refine blk_drewN ?_ _ | refine blk_drew ?_ | refine blk_alloc ?_ _)); refine blk_far ?_ NB435_447.out _; (with_reducible repeat (first | refine blk_drewN ?_ _ | refine blk_drew ?_ | refine blk_alloc ?_ _)); exact BK435.out) hb); have n2_ := Aside0.mk (blk_below (g := gb447) (o := .cells #[.int .i64 t441, .int .i64 t442, .slice Ao49 t443.length co49] 24 (0, 0)) (by (with_reducible repeat (first | refine blk_drewN ?_ _ | refine blk_drew ?_ | refine blk_alloc ?_ _)); refine blk_put (cs := #[.int .i64 t441, .int .i64 t442, .slice none 0 0]) ?_ 2 _ rfl; (with_reducible repeat (first | refine blk_drewN ?_ _ | refine blk_drew ?_ | refine blk_alloc ?_ _)); refine blk_put (cs := #[.int .i64 t441, .int .i64 0, .slice none 0 0]) ?_ 1 _ rfl; (with_reducible repeat (first | refine blk_drewN ?_ _ | refine blk_drew ?_ | refine blk_alloc ?_ _)); refine blk_put (cs := #[.int .i64 0, .int .i64 0, .slice none 0 0]) ?_ 0 _ rfl; (with_reducible repeat (first | refine blk_drewN ?_ _ | refine blk_drew ?_ | refine blk_alloc ?_ _)); exact BK447.out) hb); have n3_ := Aside0.mk (below_step (by repeat (first | (with_reducible first | exact HB.out | apply below_alloc | apply pw_below_drewN | apply below_drew1 | refine below_set ?_ GE435.out | refine below_set ?_ GE447.out) | exact HB.out)) hb); clear HO445; clear BK435; clear BK447; clear HB; have HO445 := n0_; have BK435 := n1_; have BK447 := n2_; have HB := n3_; clear n0_ n1_ n2_ n3_; (try clear hb); (try clear hb2); (try clear hk); (try clear hi); have hcz52_0 : w51.cell? ⟨gb435, 0, none⟩ = some (.int .i64 a1_0) := (blk_cell BK435.out 0).trans rfl; have hcz52_1 : w51.cell? ⟨gb435, 1, none⟩ = some (.int .i64 a1_1) := (blk_cell BK435.out 1).trans rfl; have hcz52_2 : w51.cell? ⟨gb435, 2, none⟩ = some (.slice A1_2 l1_2.length c1_2) := (blk_cell BK435.out 2).trans rfl; have hfz52_0 := blk_frozen BK435.out 0; have hfz52_1 := blk_frozen BK435.out 1; have hfz52_2 := blk_frozen BK435.out 2) | (go_at_call 25; (with_reducible refine (node_Size.calls kj5 a1_0 a1_1 _ _ l1_2 t449 _ ?side1 ?side2 A34.out).mono ?_); (case side1 => repeat (first | exact (Kd.C_below HR1_2.out HB.out) | (with_reducible refine Kd.C_alloc ?_ _) | (with_reducible refine Kd.C_drewN ?_ _) | (with_reducible refine Kd.C_drew ?_))); (case side2 => exact HC1_2.out); rintro e w53 ⟨rfl, hb⟩; have n0_ := Aside0.mk (Kd.R_below (by (with_reducible repeat (first | apply Kd.R_alloc | apply Kd.R_drewN | apply Kd.R_drew)); exact HO445.out) hb); have n1_ := Aside0.mk (blk_below (g := gb435) (o := .cells #[.int .i64 a1_0, .int .i64 a1_1, .slice A1_2 l1_2.length c1_2] 24 (0, 0)) (by (with_reducible repeat (first | refine blk_drewN ?_ _ | refine blk_drew ?_ | refine blk_alloc ?_ _)); exact BK435.out) hb); have n2_ := Aside0.mk (blk_below (g := gb447) (o := .cells #[.int .i64 t441, .int .i64 t442, .slice Ao49 t443.length co49] 24 (0, 0)) (by (with_reducible repeat (first | refine blk_drewN ?_ _ | refine blk_drew ?_ | refine blk_alloc ?_ _)); exact BK447.out) hb); have n3_ := Aside0.mk (below_step (by repeat (first | (with_reducible first | exact HB.out | apply below_alloc | apply pw_below_drewN | apply below_drew1 | refine below_set ?_ GE435.out | refine below_set ?_ GE447.out) | exact HB.out)) hb); clear HO445; clear BK435; clear BK447; clear HB; have HO445 := n0_; have BK435 := n1_; have BK447 := n2_; have HB := n3_; clear n0_ n1_ n2_ n3_; (try clear hb); (try clear hb2); (try clear hk); (try clear hi)))
                        go_meet
                        case rel => exact ⟨_, H', ⟨by have := HJ5.out; first | omega | exact Nat.le_refl _⟩, ⟨by (with_reducible repeat (first | refine blk_drewN ?_ _ | refine blk_drew ?_ | refine blk_alloc ?_ _)); exact BK435.out⟩, ⟨by repeat (first | (with_reducible first | exact HB.out | apply below_alloc | apply pw_below_drewN | apply below_drew1 | refine below_set ?_ GE435.out | refine below_set ?_ GE447.out) | exact HB.out)⟩⟩
                    · replace c33 := Bool.eq_false_iff.mpr c33
                      subst c33
                      have H1 : (some false) = some r := by rw [if_neg (show ¬ (false = true) by decide)] at H; exact H
                      clear H
                      have H := H1
                      clear H1
                      obtain rfl := Option.some.inj H
                      go_wp2_with (first | ((with_reducible refine gate_callee (f := 21) rfl ?_); refine goesL_ (some 40) rfl rfl Try.func21 (by kernel_rfl) rfl #[.int .i64 a0, .string t438] rfl (by (try simp only [List.map_toArray, List.map_cons, List.map_nil]); first | done | rfl | (simp only [List.length_drop, List.length_take]; rfl)) ?_; (with_reducible refine (node_Decode.calls kj5 a0 t438 t441 t442 t443 t446 _ A29.out).mono ?_); rintro e w54 ⟨v444, rfl, ho0, hb⟩; refine ⟨_, rfl, ?_⟩; have n0_ := Aside0.mk (Kd.R_lower ho0 (below_size (by repeat (first | (with_reducible first | exact HB.out | apply below_alloc | apply pw_below_drewN | apply below_drew1 | refine below_set ?_ GE435.out) | exact HB.out)))); have n1_ := Aside0.mk (blk_below (g := gb435) (o := .cells #[.int .i64 a1_0, .int .i64 a1_1, .slice A1_2 l1_2.length c1_2] 24 (0, 0)) (by (with_reducible repeat (first | refine blk_drewN ?_ _ | refine blk_drew ?_ | refine blk_alloc ?_ _)); exact BK435.out) hb); have n2_ := Aside0.mk (below_step (by repeat (first | (with_reducible first | exact HB.out | apply below_alloc | apply pw_below_drewN | apply below_drew1 | refine below_set ?_ GE435.out) | exact HB.out)) hb); clear BK435; clear HB; have HO445 := n0_; have BK435 := n1_; have HB := n2_; clear n0_ n1_ n2_; (try clear hb); (try clear hb2); (try clear hk); (try clear hi); (try clear ho0)) | ((with_reducible refine gate_dst (N := 9) rfl ?_); (try (refine gate_guard (by rfl) ?_; dsimp only)); refine box_event ?hg (N := 9) ?hd (cs := #[.int .i64 0, .int .i64 0, .slice none 0 0]) (t := 24) ?hr ?_; (case hd => rfl); (case hg => rfl); (case hr => first | (go_simp; done) | (go_simp; rfl)); intro gb447 hg w55 hbox hb; have n0_ := Aside0.mk (Kd.R_below (by (with_reducible repeat (first | apply Kd.R_alloc | apply Kd.R_drewN | apply Kd.R_drew)); exact HO445.out) hb); have n1_ := Aside0.mk (blk_below (g := gb435) (o := .cells #[.int .i64 a1_0, .int .i64 a1_1, .slice A1_2 l1_2.length c1_2] 24 (0, 0)) (by (with_reducible repeat (first | refine blk_drewN ?_ _ | refine blk_drew ?_ | refine blk_alloc ?_ _)); exact BK435.out) hb); have n2_ := Aside0.mk (below_step (by repeat (first | (with_reducible first | exact HB.out | apply below_alloc | apply pw_below_drewN | apply below_drew1 | refine below_set ?_ GE435.out) | exact HB.out)) hb); have n3_ := Aside0.mk (hbox); have n4_ := Aside0.mk ((by rw [hg]; exact (below_size (by repeat (first | (with_reducible first | exact HB.out | apply below_alloc | apply pw_below_drewN | apply below_drew1 | refine below_set ?_ GE435.out) | exact HB.out))) : w.heap.size ≤ gb447)); have n5_ := Aside0.mk ((by rw [hg]; exact (below_size (by repeat (first | (with_reducible first | exact HB.out | apply below_alloc | apply pw_below_drewN | apply below_drew1 | refine below_set ?_ GE435.out) | exact HB.out))) : w.heap.size ≤ gb447)); have n6_ := Aside0.mk ((by rw [hg]; exact Nat.ne_of_lt (blk_lt (g := gb435) (o := .cells #[.int .i64 a1_0, .int .i64 a1_1, .slice A1_2 l1_2.length c1_2] 24 (0, 0)) (by (with_reducible repeat (first | refine blk_drewN ?_ _ | refine blk_drew ?_ | refine blk_alloc ?_ _)); exact BK435.out)) : gb435 ≠ gb447)); have n7_ := Aside0.mk ((by rw [hg]; exact Nat.ne_of_gt (blk_lt (g := gb435) (o := .cells #[.int .i64 a1_0, .int .i64 a1_1, .slice A1_2 l1_2.length c1_2] 24 (0, 0)) (by (with_reducible repeat (first | refine blk_drewN ?_ _ | refine blk_drew ?_ | refine blk_alloc ?_ _)); exact BK435.out)) : gb447 ≠ gb435)); clear HO445; clear BK435; clear HB; have HO445 := n0_; have BK435 := n1_; have HB := n2_; have BK447 := n3_; have GW447 := n4_; have GE447 := n5_; have NB435_447 := n6_; have NB447_435 := n7_; clear n0_ n1_ n2_ n3_ n4_ n5_ n6_ n7_; clear hb hbox hg; have hnb56 := NB447_435.out; have hnc56 := NB435_447.out; have hcz57_0 : w55.cell? ⟨gb447, 0, none⟩ = some (.int .i64 0) := (blk_cell BK447.out 0).trans rfl; have hcz57_1 : w55.cell? ⟨gb447, 1, none⟩ = some (.int .i64 0) := (blk_cell BK447.out 1).trans rfl; have hcz57_2 : w55.cell? ⟨gb447, 2, none⟩ = some (.slice none 0 0) := (blk_cell BK447.out 2).trans rfl; have hfz57_0 := blk_frozen BK447.out 0; have hfz57_1 := blk_frozen BK447.out 1; have hfz57_2 := blk_frozen BK447.out 2; obtain ⟨Ao58, co58, eo58⟩ := Kd.R_slice HO445.out; subst eo58; have hcz59_0 : w55.cell? ⟨gb435, 0, none⟩ = some (.int .i64 a1_0) := (blk_cell BK435.out 0).trans rfl; have hcz59_1 : w55.cell? ⟨gb435, 1, none⟩ = some (.int .i64 a1_1) := (blk_cell BK435.out 1).trans rfl; have hcz59_2 : w55.cell? ⟨gb435, 2, none⟩ = some (.slice A1_2 l1_2.length c1_2) := (blk_cell BK435.out 2).trans rfl; have hfz59_0 := blk_frozen BK435.out 0; have hfz59_1 := blk_frozen BK435.out 1; have hfz59_2 := blk_frozen BK435.out 2) | (go_at_call 20; (with_reducible refine (dasdref20_Same.calls kj5 a1_0 a1_1 _ _ l1_2 t441 t442 _ _ t443 false _ ?side1 ?side2 ?side3 ?side4 A32.out).mono ?_); (case side1 => exact Kd.C_below HR1_2.out (by repeat (first | (with_reducible first | exact HB.out | apply below_alloc | apply pw_below_drewN | apply below_drew1 | refine below_set ?_ GE435.out | refine below_set ?_ GE447.out) | exact HB.out))); (case side2 => exact HC1_2.out); (case side3 => refine (Kd.R_reads' (e := 32) (base := w.heap.size) (ok := fun k_ => True) (n := t443.length) (c := co58) ?_).2.2; exact (by (with_reducible repeat (first | apply Kd.R_alloc | apply Kd.R_drewN | apply Kd.R_drew)); exact (Kd.R_mono (Kd.R_far (p := ⟨gb447, 2, none⟩) (Kd.R_far (p := ⟨gb447, 1, none⟩) (Kd.R_far (p := ⟨gb447, 0, none⟩) (Kd.R_types HO445.out BK447.out (by decide)) (fun _ hk => hk.2) (.int .i64 t441)) (fun _ hk => hk.2) (.int .i64 t442)) (fun _ hk => hk.2) (.slice Ao58 t443.length co58)) (fun _ h_ => h_.1)))); (case side4 => exact (Kd.R_reads' HO445.out).2.1); rintro e w60 ⟨rfl, hb⟩; have n0_ := Aside0.mk (Kd.R_below (by (with_reducible repeat (first | apply Kd.R_alloc | apply Kd.R_drewN | apply Kd.R_drew)); exact (Kd.R_mono (Kd.R_far (p := ⟨gb447, 2, none⟩) (Kd.R_far (p := ⟨gb447, 1, none⟩) (Kd.R_far (p := ⟨gb447, 0, none⟩) (Kd.R_types HO445.out BK447.out (by decide)) (fun _ hk => hk.2) (.int .i64 t441)) (fun _ hk => hk.2) (.int .i64 t442)) (fun _ hk => hk.2) (.slice Ao58 t443.length co58)) (fun _ h_ => h_.1))) hb); have n1_ := Aside0.mk (blk_below (g := gb435) (o := .cells #[.int .i64 a1_0, .int .i64 a1_1, .slice A1_2 l1_2.length c1_2] 24 (0, 0)) (by (with_reducible repeat (first | refine blk_drewN ?_ _ | refine blk_drew ?_ | refine blk_alloc ?_ _)); refine blk_far ?_ NB435_447.out _; (with_reducible repeat (first | refine blk_drewN ?_ _ | refine blk_drew ?_ | refine blk_alloc ?_ _)); refine blk_far ?_ NB435_447.out _; (with_reducible repeat (first | refine blk_drewN ?_ _ | refine blk_drew ?_ | refine blk_alloc ?_ _)); refine blk_far ?_ NB435_447.out _; (with_reducible repeat (first | refine blk_drewN ?_ _ | refine blk_drew ?_ | refine blk_alloc ?_ _)); exact BK435.out) hb); have n2_ := Aside0.mk (blk_below (g := gb447) (o := .cells #[.int .i64 t441, .int .i64 t442, .slice Ao58 t443.length co58] 24 (0, 0)) (by (with_reducible repeat (first | refine blk_drewN ?_ _ | refine blk_drew ?_ | refine blk_alloc ?_ _)); refine blk_put (cs := #[.int .i64 t441, .int .i64 t442, .slice none 0 0]) ?_ 2 _ rfl; (with_reducible repeat (first | refine blk_drewN ?_ _ | refine blk_drew ?_ | refine blk_alloc ?_ _)); refine blk_put (cs := #[.int .i64 t441, .int .i64 0, .slice none 0 0]) ?_ 1 _ rfl; (with_reducible repeat (first | refine blk_drewN ?_ _ | refine blk_drew ?_ | refine blk_alloc ?_ _)); refine blk_put (cs := #[.int .i64 0, .int .i64 0, .slice none 0 0]) ?_ 0 _ rfl; (with_reducible repeat (first | refine blk_drewN ?_ _ | refine blk_drew ?_ | refine blk_alloc ?_ _)); exact BK447.out) hb); have n3_ := Aside0.mk (below_step (by repeat (first | (with_reducible first | exact HB.out | apply below_alloc | apply pw_below_drewN | apply below_drew1 | refine below_set ?_ GE435.out | refine below_set ?_ GE447.out) | exact HB.out)) hb); clear HO445; clear BK435; clear BK447; clear HB; have HO445 := n0_; have BK435 := n1_; have BK447 := n2_; have HB := n3_; clear n0_ n1_ n2_ n3_; (try clear hb); (try clear hb2); (try clear hk); (try clear hi)))
                      go_ret
                      exact ⟨by first | rfl | (simp [errW_none, errW_some] <;> rfl) | (simp [*, errW_none, errW_some] <;> rfl), by repeat (first | (with_reducible first | exact HB.out | apply below_alloc | apply pw_below_drewN | apply below_drew1 | refine below_set ?_ GE435.out | refine below_set ?_ GE447.out) | exact HB.out)⟩
                  · rw [if_neg c31] at H
                    have c31b0 : ((t438.size : Int) == a0) = false := beq_eq_false_iff_ne.mpr c31
                    have c31b1 : ((t438.size : Int) != a0) = true := bne_iff_ne.mpr c31
                    obtain rfl := Option.some.inj H
                    go_wp2_with (first | ((with_reducible refine gate_callee (f := 21) rfl ?_); refine goesL_ (some 40) rfl rfl Try.func21 (by kernel_rfl) rfl #[.int .i64 a0, .string t438] rfl (by (try simp only [List.map_toArray, List.map_cons, List.map_nil]); first | done | rfl | (simp only [List.length_drop, List.length_take]; rfl)) ?_; (with_reducible refine (node_Decode.calls kj5 a0 t438 t441 t442 t443 t446 _ A29.out).mono ?_); rintro e w61 ⟨v444, rfl, ho0, hb⟩; refine ⟨_, rfl, ?_⟩; have n0_ := Aside0.mk (Kd.R_lower ho0 (below_size (by repeat (first | (with_reducible first | exact HB.out | apply below_alloc | apply pw_below_drewN | apply below_drew1 | refine below_set ?_ GE435.out) | exact HB.out)))); have n1_ := Aside0.mk (blk_below (g := gb435) (o := .cells #[.int .i64 a1_0, .int .i64 a1_1, .slice A1_2 l1_2.length c1_2] 24 (0, 0)) (by (with_reducible repeat (first | refine blk_drewN ?_ _ | refine blk_drew ?_ | refine blk_alloc ?_ _)); exact BK435.out) hb); have n2_ := Aside0.mk (below_step (by repeat (first | (with_reducible first | exact HB.out | apply below_alloc | apply pw_below_drewN | apply below_drew1 | refine below_set ?_ GE435.out) | exact HB.out)) hb); clear BK435; clear HB; have HO445 := n0_; have BK435 := n1_; have HB := n2_; clear n0_ n1_ n2_; (try clear hb); (try clear hb2); (try clear hk); (try clear hi); (try clear ho0)) | ((with_reducible refine gate_dst (N := 9) rfl ?_); (try (refine gate_guard (by rfl) ?_; dsimp only)); refine box_event ?hg (N := 9) ?hd (cs := #[.int .i64 0, .int .i64 0, .slice none 0 0]) (t := 24) ?hr ?_; (case hd => rfl); (case hg => rfl); (case hr => first | (go_simp; done) | (go_simp; rfl)); intro gb447 hg w62 hbox hb; have n0_ := Aside0.mk (Kd.R_below (by (with_reducible repeat (first | apply Kd.R_alloc | apply Kd.R_drewN | apply Kd.R_drew)); exact HO445.out) hb); have n1_ := Aside0.mk (blk_below (g := gb435) (o := .cells #[.int .i64 a1_0, .int .i64 a1_1, .slice A1_2 l1_2.length c1_2] 24 (0, 0)) (by (with_reducible repeat (first | refine blk_drewN ?_ _ | refine blk_drew ?_ | refine blk_alloc ?_ _)); exact BK435.out) hb); have n2_ := Aside0.mk (below_step (by repeat (first | (with_reducible first | exact HB.out | apply below_alloc | apply pw_below_drewN | apply below_drew1 | refine below_set ?_ GE435.out) | exact HB.out)) hb); have n3_ := Aside0.mk (hbox); have n4_ := Aside0.mk ((by rw [hg]; exact (below_size (by repeat (first | (with_reducible first | exact HB.out | apply below_alloc | apply pw_below_drewN | apply below_drew1 | refine below_set ?_ GE435.out) | exact HB.out))) : w.heap.size ≤ gb447)); have n5_ := Aside0.mk ((by rw [hg]; exact (below_size (by repeat (first | (with_reducible first | exact HB.out | apply below_alloc | apply pw_below_drewN | apply below_drew1 | refine below_set ?_ GE435.out) | exact HB.out))) : w.heap.size ≤ gb447)); have n6_ := Aside0.mk ((by rw [hg]; exact Nat.ne_of_lt (blk_lt (g := gb435) (o := .cells #[.int .i64 a1_0, .int .i64 a1_1, .slice A1_2 l1_2.length c1_2] 24 (0, 0)) (by (with_reducible repeat (first | refine blk_drewN ?_ _ | refine blk_drew ?_ | refine blk_alloc ?_ _)); exact BK435.out)) : gb435 ≠ gb447)); have n7_ := Aside0.mk ((by rw [hg]; exact Nat.ne_of_gt (blk_lt (g := gb435) (o := .cells #[.int .i64 a1_0, .int .i64 a1_1, .slice A1_2 l1_2.length c1_2] 24 (0, 0)) (by (with_reducible repeat (first | refine blk_drewN ?_ _ | refine blk_drew ?_ | refine blk_alloc ?_ _)); exact BK435.out)) : gb447 ≠ gb435)); clear HO445; clear BK435; clear HB; have HO445 := n0_; have BK435 := n1_; have HB := n2_; have BK447 := n3_; have GW447 := n4_; have GE447 := n5_; have NB435_447 := n6_; have NB447_435 := n7_; clear n0_ n1_ n2_ n3_ n4_ n5_ n6_ n7_; clear hb hbox hg; have hnb63 := NB447_435.out; have hnc63 := NB435_447.out; have hcz64_0 : w62.cell? ⟨gb447, 0, none⟩ = some (.int .i64 0) := (blk_cell BK447.out 0).trans rfl; have hcz64_1 : w62.cell? ⟨gb447, 1, none⟩ = some (.int .i64 0) := (blk_cell BK447.out 1).trans rfl; have hcz64_2 : w62.cell? ⟨gb447, 2, none⟩ = some (.slice none 0 0) := (blk_cell BK447.out 2).trans rfl; have hfz64_0 := blk_frozen BK447.out 0; have hfz64_1 := blk_frozen BK447.out 1; have hfz64_2 := blk_frozen BK447.out 2; obtain ⟨Ao65, co65, eo65⟩ := Kd.R_slice HO445.out; subst eo65))
                    go_ret
                    exact ⟨by first | rfl | (simp [errW_none, errW_some] <;> rfl) | (simp [*, errW_none, errW_some] <;> rfl), by repeat (first | (with_reducible first | exact HB.out | apply below_alloc | apply pw_below_drewN | apply below_drew1 | refine below_set ?_ GE435.out | refine below_set ?_ GE447.out) | exact HB.out)⟩
                · rw [if_neg c30] at H
                  have c30b0 : (t446 == 0) = false := beq_eq_false_iff_ne.mpr c30
                  have c30b1 : (t446 != 0) = true := bne_iff_ne.mpr c30
                  obtain rfl := Option.some.inj H
                  go_wp2_with (first | ((with_reducible refine gate_callee (f := 21) rfl ?_); refine goesL_ (some 40) rfl rfl Try.func21 (by kernel_rfl) rfl #[.int .i64 a0, .string t438] rfl (by (try simp only [List.map_toArray, List.map_cons, List.map_nil]); first | done | rfl | (simp only [List.length_drop, List.length_take]; rfl)) ?_; (with_reducible refine (node_Decode.calls kj5 a0 t438 t441 t442 t443 t446 _ A29.out).mono ?_); rintro e w66 ⟨v444, rfl, ho0, hb⟩; refine ⟨_, rfl, ?_⟩; have n0_ := Aside0.mk (Kd.R_lower ho0 (below_size (by repeat (first | (with_reducible first | exact HB.out | apply below_alloc | apply pw_below_drewN | apply below_drew1 | refine below_set ?_ GE435.out) | exact HB.out)))); have n1_ := Aside0.mk (blk_below (g := gb435) (o := .cells #[.int .i64 a1_0, .int .i64 a1_1, .slice A1_2 l1_2.length c1_2] 24 (0, 0)) (by (with_reducible repeat (first | refine blk_drewN ?_ _ | refine blk_drew ?_ | refine blk_alloc ?_ _)); exact BK435.out) hb); have n2_ := Aside0.mk (below_step (by repeat (first | (with_reducible first | exact HB.out | apply below_alloc | apply pw_below_drewN | apply below_drew1 | refine below_set ?_ GE435.out) | exact HB.out)) hb); clear BK435; clear HB; have HO445 := n0_; have BK435 := n1_; have HB := n2_; clear n0_ n1_ n2_; (try clear hb); (try clear hb2); (try clear hk); (try clear hi); (try clear ho0)) | ((with_reducible refine gate_dst (N := 9) rfl ?_); (try (refine gate_guard (by rfl) ?_; dsimp only)); refine box_event ?hg (N := 9) ?hd (cs := #[.int .i64 0, .int .i64 0, .slice none 0 0]) (t := 24) ?hr ?_; (case hd => rfl); (case hg => rfl); (case hr => first | (go_simp; done) | (go_simp; rfl)); intro gb447 hg w67 hbox hb; have n0_ := Aside0.mk (Kd.R_below (by (with_reducible repeat (first | apply Kd.R_alloc | apply Kd.R_drewN | apply Kd.R_drew)); exact HO445.out) hb); have n1_ := Aside0.mk (blk_below (g := gb435) (o := .cells #[.int .i64 a1_0, .int .i64 a1_1, .slice A1_2 l1_2.length c1_2] 24 (0, 0)) (by (with_reducible repeat (first | refine blk_drewN ?_ _ | refine blk_drew ?_ | refine blk_alloc ?_ _)); exact BK435.out) hb); have n2_ := Aside0.mk (below_step (by repeat (first | (with_reducible first | exact HB.out | apply below_alloc | apply pw_below_drewN | apply below_drew1 | refine below_set ?_ GE435.out) | exact HB.out)) hb); have n3_ := Aside0.mk (hbox); have n4_ := Aside0.mk ((by rw [hg]; exact (below_size (by repeat (first | (with_reducible first | exact HB.out | apply below_alloc | apply pw_below_drewN | apply below_drew1 | refine below_set ?_ GE435.out) | exact HB.out))) : w.heap.size ≤ gb447)); have n5_ := Aside0.mk ((by rw [hg]; exact (below_size (by repeat (first | (with_reducible first | exact HB.out | apply below_alloc | apply pw_below_drewN | apply below_drew1 | refine below_set ?_ GE435.out) | exact HB.out))) : w.heap.size ≤ gb447)); have n6_ := Aside0.mk ((by rw [hg]; exact Nat.ne_of_lt (blk_lt (g := gb435) (o := .cells #[.int .i64 a1_0, .int .i64 a1_1, .slice A1_2 l1_2.length c1_2] 24 (0, 0)) (by (with_reducible repeat (first | refine blk_drewN ?_ _ | refine blk_drew ?_ | refine blk_alloc ?_ _)); exact BK435.out)) : gb435 ≠ gb447)); have n7_ := Aside0.mk ((by rw [hg]; exact Nat.ne_of_gt (blk_lt (g := gb435) (o := .cells #[.int .i64 a1_0, .int .i64 a1_1, .slice A1_2 l1_2.length c1_2] 24 (0, 0)) (by (with_reducible repeat (first | refine blk_drewN ?_ _ | refine blk_drew ?_ | refine blk_alloc ?_ _)); exact BK435.out)) : gb447 ≠ gb435)); clear HO445; clear BK435; clear HB; have HO445 := n0_; have BK435 := n1_; have HB := n2_; have BK447 := n3_; have GW447 := n4_; have GE447 := n5_; have NB435_447 := n6_; have NB447_435 := n7_; clear n0_ n1_ n2_ n3_ n4_ n5_ n6_ n7_; clear hb hbox hg; have hnb68 := NB447_435.out; have hnc68 := NB435_447.out; have hcz69_0 : w67.cell? ⟨gb447, 0, none⟩ = some (.int .i64 0) := (blk_cell BK447.out 0).trans rfl; have hcz69_1 : w67.cell? ⟨gb447, 1, none⟩ = some (.int .i64 0) := (blk_cell BK447.out 1).trans rfl; have hcz69_2 : w67.cell? ⟨gb447, 2, none⟩ = some (.slice none 0 0) := (blk_cell BK447.out 2).trans rfl; have hfz69_0 := blk_frozen BK447.out 0; have hfz69_1 := blk_frozen BK447.out 1; have hfz69_2 := blk_frozen BK447.out 2; obtain ⟨Ao70, co70, eo70⟩ := Kd.R_slice HO445.out; subst eo70))
                  go_ret
                  exact ⟨by first | rfl | (simp [errW_none, errW_some] <;> rfl) | (simp [*, errW_none, errW_some] <;> rfl), by repeat (first | (with_reducible first | exact HB.out | apply below_alloc | apply pw_below_drewN | apply below_drew1 | refine below_set ?_ GE435.out | refine below_set ?_ GE447.out) | exact HB.out)⟩
              · rw [if_neg c28] at H
                have c28b0 : (t439 == 0) = false := beq_eq_false_iff_ne.mpr c28
                have c28b1 : (t439 != 0) = true := bne_iff_ne.mpr c28
                (first | rw [c28b0] | (simp only [i64_w, i32_w]; rw [c28b0]) | skip)
                have H' := Aside0.mk H
                clear H
                go_wp2
                go_meet
                case rel => exact ⟨_, H', ⟨by have := HJ5.out; first | omega | exact Nat.le_refl _⟩, ⟨by (with_reducible repeat (first | refine blk_drewN ?_ _ | refine blk_drew ?_ | refine blk_alloc ?_ _)); exact BK435.out⟩, ⟨by repeat (first | (with_reducible first | exact HB.out | apply below_alloc | apply pw_below_drewN | apply below_drew1 | refine below_set ?_ GE435.out) | exact HB.out)⟩⟩
            case rest =>
              clear HC23
              try clear c1
              try clear c2
              try clear p2
              try clear c3
              try clear c4
              try clear c5
              try clear c6
              try clear c8
              try clear c10
              try clear c15
              try clear c18
              try clear c18b0
              try clear c18b1
              try clear c18b2
              try clear c21
              try clear c23
              try clear c27
              try clear c28
              try clear c28b0
              try clear c28b1
              try clear c30
              try clear c30b0
              try clear c30b1
              try clear c31
              try clear c31b0
              try clear c31b1
              try clear c33
              try clear c35
              try clear c35b0
              try clear c38
              try clear c47
              try clear c56
              try clear c63
              try clear c68
              try clear hcz11_0
              try clear hcz11_1
              try clear hcz11_2
              try clear hcz13_0
              try clear hcz13_1
              try clear hcz13_2
              try clear hcz19_0
              try clear hcz19_1
              try clear hcz19_2
              try clear hcz21_0
              try clear hcz21_1
              try clear hcz21_2
              try clear hcz24_0
              try clear hcz24_1
              try clear hcz24_2
              try clear hcz26_0
              try clear hcz26_1
              try clear hcz26_2
              try clear hcz39_0
              try clear hcz39_1
              try clear hcz39_2
              try clear hcz41_0
              try clear hcz41_1
              try clear hcz41_2
              try clear hcz43_0
              try clear hcz43_1
              try clear hcz43_2
              try clear hcz48_0
              try clear hcz48_1
              try clear hcz48_2
              try clear hcz50_0
              try clear hcz50_1
              try clear hcz50_2
              try clear hcz52_0
              try clear hcz52_1
              try clear hcz52_2
              try clear hcz57_0
              try clear hcz57_1
              try clear hcz57_2
              try clear hcz59_0
              try clear hcz59_1
              try clear hcz59_2
              try clear hcz64_0
              try clear hcz64_1
              try clear hcz64_2
              try clear hcz69_0
              try clear hcz69_1
              try clear hcz69_2
              try clear hfz11_0
              try clear hfz11_1
              try clear hfz11_2
              try clear hfz13_0
              try clear hfz13_1
              try clear hfz13_2
              try clear hfz19_0
              try clear hfz19_1
              try clear hfz19_2
              try clear hfz21_0
              try clear hfz21_1
              try clear hfz21_2
              try clear hfz24_0
              try clear hfz24_1
              try clear hfz24_2
              try clear hfz26_0
              try clear hfz26_1
              try clear hfz26_2
              try clear hfz39_0
              try clear hfz39_1
              try clear hfz39_2
              try clear hfz41_0
              try clear hfz41_1
              try clear hfz41_2
              try clear hfz43_0
              try clear hfz43_1
              try clear hfz43_2
              try clear hfz48_0
              try clear hfz48_1
              try clear hfz48_2
              try clear hfz50_0
              try clear hfz50_1
              try clear hfz50_2
              try clear hfz52_0
              try clear hfz52_1
              try clear hfz52_2
              try clear hfz57_0
              try clear hfz57_1
              try clear hfz57_2
              try clear hfz59_0
              try clear hfz59_1
              try clear hfz59_2
              try clear hfz64_0
              try clear hfz64_1
              try clear hfz64_2
              try clear hfz69_0
              try clear hfz69_1
              try clear hfz69_2
              try clear p2
              obtain ⟨kq, HA, HJ22, BK435, HB⟩ := hcut
              cases kq with
              | zero => exact absurd HA.out (by simp [dasdlaw20_NodeInverts.j1])
              | succ kj22 =>
                have H := HA.out
                clear HA
                simp only [dasdlaw20_NodeInverts.j1] at H
                replace H := Option.bind_eq_some_iff.mp H
                obtain ⟨⟨t450, t451, t452, t455⟩, A710, H⟩ := H
                replace H : (if t455 = 0 then ((node_Encode.f kj22 a0 t450 t451 t452).bind fun bt457 => (if bt457.2 = 0 then (some (bt457.1.toList == a2.toList)) else (some false))) else (some ((t452.length : Int) == 0))) = some r := H
                have A71 := Aside0.mk A710
                clear A710
                by_cases c72 : t455 = 0
                · rw [if_pos c72] at H
                  have c72b0 : (t455 == 0) = true := beq_iff_eq.mpr c72
                  have c72b1 : (t455 != 0) = false := bne_eq_false_iff_eq.mpr c72
                  clear c72
                  replace H := Option.bind_eq_some_iff.mp H
                  obtain ⟨⟨t457, t458⟩, A730, H⟩ := H
                  replace H : (if t458 = 0 then (some (t457.toList == a2.toList)) else (some false)) = some r := H
                  have A73 := Aside0.mk A730
                  clear A730
                  by_cases c74 : t458 = 0
                  · rw [if_pos c74] at H
                    have c74b0 : (t458 == 0) = true := beq_iff_eq.mpr c74
                    have c74b1 : (t458 != 0) = false := bne_eq_false_iff_eq.mpr c74
                    clear c74
                    obtain rfl := Option.some.inj H
                    go_wp2_with (first | ((with_reducible refine gate_callee (f := 21) rfl ?_); refine goesL_ (some 66) rfl rfl Try.func21 (by kernel_rfl) rfl #[.int .i64 a0, .string a2] rfl (by (try simp only [List.map_toArray, List.map_cons, List.map_nil]); first | done | rfl | (simp only [List.length_drop, List.length_take]; rfl)) ?_; (with_reducible refine (node_Decode.calls kj22 a0 a2 t450 t451 t452 t455 _ A71.out).mono ?_); rintro e w75 ⟨v453, rfl, ho0, hb⟩; refine ⟨_, rfl, ?_⟩; have n0_ := Aside0.mk (Kd.R_lower ho0 (below_size (by repeat (first | (with_reducible first | exact HB.out | apply below_alloc | apply pw_below_drewN | apply below_drew1 | refine below_set ?_ GE435.out) | exact HB.out)))); have n1_ := Aside0.mk (blk_below (g := gb435) (o := .cells #[.int .i64 a1_0, .int .i64 a1_1, .slice A1_2 l1_2.length c1_2] 24 (0, 0)) (by (with_reducible repeat (first | refine blk_drewN ?_ _ | refine blk_drew ?_ | refine blk_alloc ?_ _)); exact BK435.out) hb); have n2_ := Aside0.mk (below_step (by repeat (first | (with_reducible first | exact HB.out | apply below_alloc | apply pw_below_drewN | apply below_drew1 | refine below_set ?_ GE435.out) | exact HB.out)) hb); clear BK435; clear HB; have HO454 := n0_; have BK435 := n1_; have HB := n2_; clear n0_ n1_ n2_; (try clear hb); (try clear hb2); (try clear hk); (try clear hi); (try clear ho0)) | ((with_reducible refine gate_dst (N := 11) rfl ?_); (try (refine gate_guard (by rfl) ?_; dsimp only)); refine box_event ?hg (N := 11) ?hd (cs := #[.int .i64 0, .int .i64 0, .slice none 0 0]) (t := 24) ?hr ?_; (case hd => rfl); (case hg => rfl); (case hr => first | (go_simp; done) | (go_simp; rfl)); intro gb456 hg w76 hbox hb; have n0_ := Aside0.mk (Kd.R_below (by (with_reducible repeat (first | apply Kd.R_alloc | apply Kd.R_drewN | apply Kd.R_drew)); exact HO454.out) hb); have n1_ := Aside0.mk (blk_below (g := gb435) (o := .cells #[.int .i64 a1_0, .int .i64 a1_1, .slice A1_2 l1_2.length c1_2] 24 (0, 0)) (by (with_reducible repeat (first | refine blk_drewN ?_ _ | refine blk_drew ?_ | refine blk_alloc ?_ _)); exact BK435.out) hb); have n2_ := Aside0.mk (below_step (by repeat (first | (with_reducible first | exact HB.out | apply below_alloc | apply pw_below_drewN | apply below_drew1 | refine below_set ?_ GE435.out) | exact HB.out)) hb); have n3_ := Aside0.mk (hbox); have n4_ := Aside0.mk ((by rw [hg]; exact (below_size (by repeat (first | (with_reducible first | exact HB.out | apply below_alloc | apply pw_below_drewN | apply below_drew1 | refine below_set ?_ GE435.out) | exact HB.out))) : w.heap.size ≤ gb456)); have n5_ := Aside0.mk ((by rw [hg]; exact (below_size (by repeat (first | (with_reducible first | exact HB.out | apply below_alloc | apply pw_below_drewN | apply below_drew1 | refine below_set ?_ GE435.out) | exact HB.out))) : w.heap.size ≤ gb456)); have n6_ := Aside0.mk ((by rw [hg]; exact Nat.ne_of_lt (blk_lt (g := gb435) (o := .cells #[.int .i64 a1_0, .int .i64 a1_1, .slice A1_2 l1_2.length c1_2] 24 (0, 0)) (by (with_reducible repeat (first | refine blk_drewN ?_ _ | refine blk_drew ?_ | refine blk_alloc ?_ _)); exact BK435.out)) : gb435 ≠ gb456)); have n7_ := Aside0.mk ((by rw [hg]; exact Nat.ne_of_gt (blk_lt (g := gb435) (o := .cells #[.int .i64 a1_0, .int .i64 a1_1, .slice A1_2 l1_2.length c1_2] 24 (0, 0)) (by (with_reducible repeat (first | refine blk_drewN ?_ _ | refine blk_drew ?_ | refine blk_alloc ?_ _)); exact BK435.out)) : gb456 ≠ gb435)); clear HO454; clear BK435; clear HB; have HO454 := n0_; have BK435 := n1_; have HB := n2_; have BK456 := n3_; have GW456 := n4_; have GE456 := n5_; have NB435_456 := n6_; have NB456_435 := n7_; clear n0_ n1_ n2_ n3_ n4_ n5_ n6_ n7_; clear hb hbox hg; have hnb77 := NB456_435.out; have hnc77 := NB435_456.out; have hcz78_0 : w76.cell? ⟨gb456, 0, none⟩ = some (.int .i64 0) := (blk_cell BK456.out 0).trans rfl; have hcz78_1 : w76.cell? ⟨gb456, 1, none⟩ = some (.int .i64 0) := (blk_cell BK456.out 1).trans rfl; have hcz78_2 : w76.cell? ⟨gb456, 2, none⟩ = some (.slice none 0 0) := (blk_cell BK456.out 2).trans rfl; have hfz78_0 := blk_frozen BK456.out 0; have hfz78_1 := blk_frozen BK456.out 1; have hfz78_2 := blk_frozen BK456.out 2; obtain ⟨Ao79, co79, eo79⟩ := Kd.R_slice HO454.out; subst eo79) | ((with_reducible refine gate_callee (f := 23) rfl ?_); refine goesL_ (some 78) rfl rfl Try.func23 (by kernel_rfl) rfl #[.int .i64 a0, .agg #[.int .i64 t450, .int .i64 t451, .slice Ao79 t452.length co79]] rfl (by (try simp only [List.map_toArray, List.map_cons, List.map_nil]); first | done | rfl | (simp only [List.length_drop, List.length_take]; rfl)) ?_; (with_reducible refine (node_Encode.calls kj22 a0 t450 t451 _ _ t452 t457 t458 _ ?side1 ?side2 A73.out).mono ?_); (case side1 => refine (Kd.R_reads' (e := 32) (base := w.heap.size) (ok := fun k_ => True) (n := t452.length) (c := co79) ?_).2.2; exact (by (with_reducible repeat (first | apply Kd.R_alloc | apply Kd.R_drewN | apply Kd.R_drew)); exact (Kd.R_mono (Kd.R_far (p := ⟨gb456, 2, none⟩) (Kd.R_far (p := ⟨gb456, 1, none⟩) (Kd.R_far (p := ⟨gb456, 0, none⟩) (Kd.R_types HO454.out BK456.out (by decide)) (fun _ hk => hk.2) (.int .i64 t450)) (fun _ hk => hk.2) (.int .i64 t451)) (fun _ hk => hk.2) (.slice Ao79 t452.length co79)) (fun _ h_ => h_.1)))); (case side2 => exact (Kd.R_reads' HO454.out).2.1); rintro e w80 ⟨rfl, hb⟩; refine ⟨_, rfl, ?_⟩; have n0_ := Aside0.mk (Kd.R_below (by (with_reducible repeat (first | apply Kd.R_alloc | apply Kd.R_drewN | apply Kd.R_drew)); exact (Kd.R_mono (Kd.R_far (p := ⟨gb456, 2, none⟩) (Kd.R_far (p := ⟨gb456, 1, none⟩) (Kd.R_far (p := ⟨gb456, 0, none⟩) (Kd.R_types HO454.out BK456.out (by decide)) (fun _ hk => hk.2) (.int .i64 t450)) (fun _ hk => hk.2) (.int .i64 t451)) (fun _ hk => hk.2) (.slice Ao79 t452.length co79)) (fun _ h_ => h_.1))) hb); have n1_ := Aside0.mk (blk_below (g := gb435) (o := .cells #[.int .i64 a1_0, .int .i64 a1_1, .slice A1_2 l1_2.length c1_2] 24 (0, 0)) (by (with_reducible repeat (first | refine blk_drewN ?_ _ | refine blk_drew ?_ | refine blk_alloc ?_ _)); refine blk_far ?_ NB435_456.out _; (with_reducible repeat (first | refine blk_drewN ?_ _ | refine blk_drew ?_ | refine blk_alloc ?_ _)); refine blk_far ?_ NB435_456.out _; (with_reducible repeat (first | refine blk_drewN ?_ _ | refine blk_drew ?_ | refine blk_alloc ?_ _)); refine blk_far ?_ NB435_456.out _; (with_reducible repeat (first | refine blk_drewN ?_ _ | refine blk_drew ?_ | refine blk_alloc ?_ _)); exact BK435.out) hb); have n2_ := Aside0.mk (blk_below (g := gb456) (o := .cells #[.int .i64 t450, .int .i64 t451, .slice Ao79 t452.length co79] 24 (0, 0)) (by (with_reducible repeat (first | refine blk_drewN ?_ _ | refine blk_drew ?_ | refine blk_alloc ?_ _)); refine blk_put (cs := #[.int .i64 t450, .int .i64 t451, .slice none 0 0]) ?_ 2 _ rfl; (with_reducible repeat (first | refine blk_drewN ?_ _ | refine blk_drew ?_ | refine blk_alloc ?_ _)); refine blk_put (cs := #[.int .i64 t450, .int .i64 0, .slice none 0 0]) ?_ 1 _ rfl; (with_reducible repeat (first | refine blk_drewN ?_ _ | refine blk_drew ?_ | refine blk_alloc ?_ _)); refine blk_put (cs := #[.int .i64 0, .int .i64 0, .slice none 0 0]) ?_ 0 _ rfl; (with_reducible repeat (first | refine blk_drewN ?_ _ | refine blk_drew ?_ | refine blk_alloc ?_ _)); exact BK456.out) hb); have n3_ := Aside0.mk (below_step (by repeat (first | (with_reducible first | exact HB.out | apply below_alloc | apply pw_below_drewN | apply below_drew1 | refine below_set ?_ GE435.out | refine below_set ?_ GE456.out) | exact HB.out)) hb); clear HO454; clear BK435; clear BK456; clear HB; have HO454 := n0_; have BK435 := n1_; have BK456 := n2_; have HB := n3_; clear n0_ n1_ n2_ n3_; (try clear hb); (try clear hb2); (try clear hk); (try clear hi)))
                    go_ret
                    exact ⟨by first | rfl | (simp [errW_none, errW_some] <;> rfl) | (simp [*, errW_none, errW_some] <;> rfl), by repeat (first | (with_reducible first | exact HB.out | apply below_alloc | apply pw_below_drewN | apply below_drew1 | refine below_set ?_ GE435.out | refine below_set ?_ GE456.out) | exact HB.out)⟩
                  · rw [if_neg c74] at H
                    have c74b0 : (t458 == 0) = false := beq_eq_false_iff_ne.mpr c74
                    have c74b1 : (t458 != 0) = true := bne_iff_ne.mpr c74
                    obtain rfl := Option.some.inj H
                    go_wp2_with (first | ((with_reducible refine gate_callee (f := 21) rfl ?_); refine goesL_ (some 66) rfl rfl Try.func21 (by kernel_rfl) rfl #[.int .i64 a0, .string a2] rfl (by (try simp only [List.map_toArray, List.map_cons, List.map_nil]); first | done | rfl | (simp only [List.length_drop, List.length_take]; rfl)) ?_; (with_reducible refine (node_Decode.calls kj22 a0 a2 t450 t451 t452 t455 _ A71.out).mono ?_); rintro e w81 ⟨v453, rfl, ho0, hb⟩; refine ⟨_, rfl, ?_⟩; have n0_ := Aside0.mk (Kd.R_lower ho0 (below_size (by repeat (first | (with_reducible first | exact HB.out | apply below_alloc | apply pw_below_drewN | apply below_drew1 | refine below_set ?_ GE435.out) | exact HB.out)))); have n1_ := Aside0.mk (blk_below (g := gb435) (o := .cells #[.int .i64 a1_0, .int .i64 a1_1, .slice A1_2 l1_2.length c1_2] 24 (0, 0)) (by (with_reducible repeat (first | refine blk_drewN ?_ _ | refine blk_drew ?_ | refine blk_alloc ?_ _)); exact BK435.out) hb); have n2_ := Aside0.mk (below_step (by repeat (first | (with_reducible first | exact HB.out | apply below_alloc | apply pw_below_drewN | apply below_drew1 | refine below_set ?_ GE435.out) | exact HB.out)) hb); clear BK435; clear HB; have HO454 := n0_; have BK435 := n1_; have HB := n2_; clear n0_ n1_ n2_; (try clear hb); (try clear hb2); (try clear hk); (try clear hi); (try clear ho0)) | ((with_reducible refine gate_dst (N := 11) rfl ?_); (try (refine gate_guard (by rfl) ?_; dsimp only)); refine box_event ?hg (N := 11) ?hd (cs := #[.int .i64 0, .int .i64 0, .slice none 0 0]) (t := 24) ?hr ?_; (case hd => rfl); (case hg => rfl); (case hr => first | (go_simp; done) | (go_simp; rfl)); intro gb456 hg w82 hbox hb; have n0_ := Aside0.mk (Kd.R_below (by (with_reducible repeat (first | apply Kd.R_alloc | apply Kd.R_drewN | apply Kd.R_drew)); exact HO454.out) hb); have n1_ := Aside0.mk (blk_below (g := gb435) (o := .cells #[.int .i64 a1_0, .int .i64 a1_1, .slice A1_2 l1_2.length c1_2] 24 (0, 0)) (by (with_reducible repeat (first | refine blk_drewN ?_ _ | refine blk_drew ?_ | refine blk_alloc ?_ _)); exact BK435.out) hb); have n2_ := Aside0.mk (below_step (by repeat (first | (with_reducible first | exact HB.out | apply below_alloc | apply pw_below_drewN | apply below_drew1 | refine below_set ?_ GE435.out) | exact HB.out)) hb); have n3_ := Aside0.mk (hbox); have n4_ := Aside0.mk ((by rw [hg]; exact (below_size (by repeat (first | (with_reducible first | exact HB.out | apply below_alloc | apply pw_below_drewN | apply below_drew1 | refine below_set ?_ GE435.out) | exact HB.out))) : w.heap.size ≤ gb456)); have n5_ := Aside0.mk ((by rw [hg]; exact (below_size (by repeat (first | (with_reducible first | exact HB.out | apply below_alloc | apply pw_below_drewN | apply below_drew1 | refine below_set ?_ GE435.out) | exact HB.out))) : w.heap.size ≤ gb456)); have n6_ := Aside0.mk ((by rw [hg]; exact Nat.ne_of_lt (blk_lt (g := gb435) (o := .cells #[.int .i64 a1_0, .int .i64 a1_1, .slice A1_2 l1_2.length c1_2] 24 (0, 0)) (by (with_reducible repeat (first | refine blk_drewN ?_ _ | refine blk_drew ?_ | refine blk_alloc ?_ _)); exact BK435.out)) : gb435 ≠ gb456)); have n7_ := Aside0.mk ((by rw [hg]; exact Nat.ne_of_gt (blk_lt (g := gb435) (o := .cells #[.int .i64 a1_0, .int .i64 a1_1, .slice A1_2 l1_2.length c1_2] 24 (0, 0)) (by (with_reducible repeat (first | refine blk_drewN ?_ _ | refine blk_drew ?_ | refine blk_alloc ?_ _)); exact BK435.out)) : gb456 ≠ gb435)); clear HO454; clear BK435; clear HB; have HO454 := n0_; have BK435 := n1_; have HB := n2_; have BK456 := n3_; have GW456 := n4_; have GE456 := n5_; have NB435_456 := n6_; have NB456_435 := n7_; clear n0_ n1_ n2_ n3_ n4_ n5_ n6_ n7_; clear hb hbox hg; have hnb83 := NB456_435.out; have hnc83 := NB435_456.out; have hcz84_0 : w82.cell? ⟨gb456, 0, none⟩ = some (.int .i64 0) := (blk_cell BK456.out 0).trans rfl; have hcz84_1 : w82.cell? ⟨gb456, 1, none⟩ = some (.int .i64 0) := (blk_cell BK456.out 1).trans rfl; have hcz84_2 : w82.cell? ⟨gb456, 2, none⟩ = some (.slice none 0 0) := (blk_cell BK456.out 2).trans rfl; have hfz84_0 := blk_frozen BK456.out 0; have hfz84_1 := blk_frozen BK456.out 1; have hfz84_2 := blk_frozen BK456.out 2; obtain ⟨Ao85, co85, eo85⟩ := Kd.R_slice HO454.out; subst eo85) | ((with_reducible refine gate_callee (f := 23) rfl ?_); refine goesL_ (some 78) rfl rfl Try.func23 (by kernel_rfl) rfl #[.int .i64 a0, .agg #[.int .i64 t450, .int .i64 t451, .slice Ao85 t452.length co85]] rfl (by (try simp only [List.map_toArray, List.map_cons, List.map_nil]); first | done | rfl | (simp only [List.length_drop, List.length_take]; rfl)) ?_; (with_reducible refine (node_Encode.calls kj22 a0 t450 t451 _ _ t452 t457 t458 _ ?side1 ?side2 A73.out).mono ?_); (case side1 => refine (Kd.R_reads' (e := 32) (base := w.heap.size) (ok := fun k_ => True) (n := t452.length) (c := co85) ?_).2.2; exact (by (with_reducible repeat (first | apply Kd.R_alloc | apply Kd.R_drewN | apply Kd.R_drew)); exact (Kd.R_mono (Kd.R_far (p := ⟨gb456, 2, none⟩) (Kd.R_far (p := ⟨gb456, 1, none⟩) (Kd.R_far (p := ⟨gb456, 0, none⟩) (Kd.R_types HO454.out BK456.out (by decide)) (fun _ hk => hk.2) (.int .i64 t450)) (fun _ hk => hk.2) (.int .i64 t451)) (fun _ hk => hk.2) (.slice Ao85 t452.length co85)) (fun _ h_ => h_.1)))); (case side2 => exact (Kd.R_reads' HO454.out).2.1); rintro e w86 ⟨rfl, hb⟩; refine ⟨_, rfl, ?_⟩; have n0_ := Aside0.mk (Kd.R_below (by (with_reducible repeat (first | apply Kd.R_alloc | apply Kd.R_drewN | apply Kd.R_drew)); exact (Kd.R_mono (Kd.R_far (p := ⟨gb456, 2, none⟩) (Kd.R_far (p := ⟨gb456, 1, none⟩) (Kd.R_far (p := ⟨gb456, 0, none⟩) (Kd.R_types HO454.out BK456.out (by decide)) (fun _ hk => hk.2) (.int .i64 t450)) (fun _ hk => hk.2) (.int .i64 t451)) (fun _ hk => hk.2) (.slice Ao85 t452.length co85)) (fun _ h_ => h_.1))) hb); have n1_ := Aside0.mk (blk_below (g := gb435) (o := .cells #[.int .i64 a1_0, .int .i64 a1_1, .slice A1_2 l1_2.length c1_2] 24 (0, 0)) (by (with_reducible repeat (first | refine blk_drewN ?_ _ | refine blk_drew ?_ | refine blk_alloc ?_ _)); refine blk_far ?_ NB435_456.out _; (with_reducible repeat (first | refine blk_drewN ?_ _ | refine blk_drew ?_ | refine blk_alloc ?_ _)); refine blk_far ?_ NB435_456.out _; (with_reducible repeat (first | refine blk_drewN ?_ _ | refine blk_drew ?_ | refine blk_alloc ?_ _)); refine blk_far ?_ NB435_456.out _; (with_reducible repeat (first | refine blk_drewN ?_ _ | refine blk_drew ?_ | refine blk_alloc ?_ _)); exact BK435.out) hb); have n2_ := Aside0.mk (blk_below (g := gb456) (o := .cells #[.int .i64 t450, .int .i64 t451, .slice Ao85 t452.length co85] 24 (0, 0)) (by (with_reducible repeat (first | refine blk_drewN ?_ _ | refine blk_drew ?_ | refine blk_alloc ?_ _)); refine blk_put (cs := #[.int .i64 t450, .int .i64 t451, .slice none 0 0]) ?_ 2 _ rfl; (with_reducible repeat (first | refine blk_drewN ?_ _ | refine blk_drew ?_ | refine blk_alloc ?_ _)); refine blk_put (cs := #[.int .i64 t450, .int .i64 0, .slice none 0 0]) ?_ 1 _ rfl; (with_reducible repeat (first | refine blk_drewN ?_ _ | refine blk_drew ?_ | refine blk_alloc ?_ _)); refine blk_put (cs := #[.int .i64 0, .int .i64 0, .slice none 0 0]) ?_ 0 _ rfl; (with_reducible repeat (first | refine blk_drewN ?_ _ | refine blk_drew ?_ | refine blk_alloc ?_ _)); exact BK456.out) hb); have n3_ := Aside0.mk (below_step (by repeat (first | (with_reducible first | exact HB.out | apply below_alloc | apply pw_below_drewN | apply below_drew1 | refine below_set ?_ GE435.out | refine below_set ?_ GE456.out) | exact HB.out)) hb); clear HO454; clear BK435; clear BK456; clear HB; have HO454 := n0_; have BK435 := n1_; have BK456 := n2_; have HB := n3_; clear n0_ n1_ n2_ n3_; (try clear hb); (try clear hb2); (try clear hk); (try clear hi)))
                    go_ret
                    exact ⟨by first | rfl | (simp [errW_none, errW_some] <;> rfl) | (simp [*, errW_none, errW_some] <;> rfl), by repeat (first | (with_reducible first | exact HB.out | apply below_alloc | apply pw_below_drewN | apply below_drew1 | refine below_set ?_ GE435.out | refine below_set ?_ GE456.out) | exact HB.out)⟩
                · rw [if_neg c72] at H
                  have c72b0 : (t455 == 0) = false := beq_eq_false_iff_ne.mpr c72
                  have c72b1 : (t455 != 0) = true := bne_iff_ne.mpr c72
                  obtain rfl := Option.some.inj H
                  go_wp2_with (first | ((with_reducible refine gate_callee (f := 21) rfl ?_); refine goesL_ (some 66) rfl rfl Try.func21 (by kernel_rfl) rfl #[.int .i64 a0, .string a2] rfl (by (try simp only [List.map_toArray, List.map_cons, List.map_nil]); first | done | rfl | (simp only [List.length_drop, List.length_take]; rfl)) ?_; (with_reducible refine (node_Decode.calls kj22 a0 a2 t450 t451 t452 t455 _ A71.out).mono ?_); rintro e w87 ⟨v453, rfl, ho0, hb⟩; refine ⟨_, rfl, ?_⟩; have n0_ := Aside0.mk (Kd.R_lower ho0 (below_size (by repeat (first | (with_reducible first | exact HB.out | apply below_alloc | apply pw_below_drewN | apply below_drew1 | refine below_set ?_ GE435.out) | exact HB.out)))); have n1_ := Aside0.mk (blk_below (g := gb435) (o := .cells #[.int .i64 a1_0, .int .i64 a1_1, .slice A1_2 l1_2.length c1_2] 24 (0, 0)) (by (with_reducible repeat (first | refine blk_drewN ?_ _ | refine blk_drew ?_ | refine blk_alloc ?_ _)); exact BK435.out) hb); have n2_ := Aside0.mk (below_step (by repeat (first | (with_reducible first | exact HB.out | apply below_alloc | apply pw_below_drewN | apply below_drew1 | refine below_set ?_ GE435.out) | exact HB.out)) hb); clear BK435; clear HB; have HO454 := n0_; have BK435 := n1_; have HB := n2_; clear n0_ n1_ n2_; (try clear hb); (try clear hb2); (try clear hk); (try clear hi); (try clear ho0)) | ((with_reducible refine gate_dst (N := 11) rfl ?_); (try (refine gate_guard (by rfl) ?_; dsimp only)); refine box_event ?hg (N := 11) ?hd (cs := #[.int .i64 0, .int .i64 0, .slice none 0 0]) (t := 24) ?hr ?_; (case hd => rfl); (case hg => rfl); (case hr => first | (go_simp; done) | (go_simp; rfl)); intro gb456 hg w88 hbox hb; have n0_ := Aside0.mk (Kd.R_below (by (with_reducible repeat (first | apply Kd.R_alloc | apply Kd.R_drewN | apply Kd.R_drew)); exact HO454.out) hb); have n1_ := Aside0.mk (blk_below (g := gb435) (o := .cells #[.int .i64 a1_0, .int .i64 a1_1, .slice A1_2 l1_2.length c1_2] 24 (0, 0)) (by (with_reducible repeat (first | refine blk_drewN ?_ _ | refine blk_drew ?_ | refine blk_alloc ?_ _)); exact BK435.out) hb); have n2_ := Aside0.mk (below_step (by repeat (first | (with_reducible first | exact HB.out | apply below_alloc | apply pw_below_drewN | apply below_drew1 | refine below_set ?_ GE435.out) | exact HB.out)) hb); have n3_ := Aside0.mk (hbox); have n4_ := Aside0.mk ((by rw [hg]; exact (below_size (by repeat (first | (with_reducible first | exact HB.out | apply below_alloc | apply pw_below_drewN | apply below_drew1 | refine below_set ?_ GE435.out) | exact HB.out))) : w.heap.size ≤ gb456)); have n5_ := Aside0.mk ((by rw [hg]; exact (below_size (by repeat (first | (with_reducible first | exact HB.out | apply below_alloc | apply pw_below_drewN | apply below_drew1 | refine below_set ?_ GE435.out) | exact HB.out))) : w.heap.size ≤ gb456)); have n6_ := Aside0.mk ((by rw [hg]; exact Nat.ne_of_lt (blk_lt (g := gb435) (o := .cells #[.int .i64 a1_0, .int .i64 a1_1, .slice A1_2 l1_2.length c1_2] 24 (0, 0)) (by (with_reducible repeat (first | refine blk_drewN ?_ _ | refine blk_drew ?_ | refine blk_alloc ?_ _)); exact BK435.out)) : gb435 ≠ gb456)); have n7_ := Aside0.mk ((by rw [hg]; exact Nat.ne_of_gt (blk_lt (g := gb435) (o := .cells #[.int .i64 a1_0, .int .i64 a1_1, .slice A1_2 l1_2.length c1_2] 24 (0, 0)) (by (with_reducible repeat (first | refine blk_drewN ?_ _ | refine blk_drew ?_ | refine blk_alloc ?_ _)); exact BK435.out)) : gb456 ≠ gb435)); clear HO454; clear BK435; clear HB; have HO454 := n0_; have BK435 := n1_; have HB := n2_; have BK456 := n3_; have GW456 := n4_; have GE456 := n5_; have NB435_456 := n6_; have NB456_435 := n7_; clear n0_ n1_ n2_ n3_ n4_ n5_ n6_ n7_; clear hb hbox hg; have hnb89 := NB456_435.out; have hnc89 := NB435_456.out; have hcz90_0 : w88.cell? ⟨gb456, 0, none⟩ = some (.int .i64 0) := (blk_cell BK456.out 0).trans rfl; have hcz90_1 : w88.cell? ⟨gb456, 1, none⟩ = some (.int .i64 0) := (blk_cell BK456.out 1).trans rfl; have hcz90_2 : w88.cell? ⟨gb456, 2, none⟩ = some (.slice none 0 0) := (blk_cell BK456.out 2).trans rfl; have hfz90_0 := blk_frozen BK456.out 0; have hfz90_1 := blk_frozen BK456.out 1; have hfz90_2 := blk_frozen BK456.out 2; obtain ⟨Ao91, co91, eo91⟩ := Kd.R_slice HO454.out; subst eo91))
                  go_ret
                  exact ⟨by first | rfl | (simp [errW_none, errW_some] <;> rfl) | (simp [*, errW_none, errW_some] <;> rfl), by repeat (first | (with_reducible first | exact HB.out | apply below_alloc | apply pw_below_drewN | apply below_drew1 | refine below_set ?_ GE435.out | refine below_set ?_ GE456.out) | exact HB.out)⟩
  · replace c5 := Bool.eq_false_iff.mpr c5
    subst c5
    have H1 : (some false) = some r := by rw [if_neg (show ¬ (false = true) by decide)] at H; exact H
    clear H
    have H := H1
    clear H1
    obtain rfl := Option.some.inj H
    go_enter Try.func8, Try.ntmps8
    go_wp2_with (first | ((with_reducible refine gate_dst (N := 4) rfl ?_); (try (refine gate_guard (by rfl) ?_; dsimp only)); refine box_event ?hg (N := 4) ?hd (cs := #[.int .i64 a1_0, .int .i64 a1_1, .slice A1_2 l1_2.length c1_2]) (t := 24) ?hr ?_; (case hd => rfl); (case hg => rfl); (case hr => first | (go_simp; done) | (go_simp; rfl)); intro gb435 hg w92 hbox hb; have n0_ := Aside0.mk (below_step (by repeat (first | (with_reducible first | exact HB.out | apply below_alloc | apply pw_below_drewN | apply below_drew1) | exact HB.out)) hb); have n1_ := Aside0.mk (hbox); have n2_ := Aside0.mk ((by rw [hg]; exact (below_size (by repeat (first | (with_reducible first | exact HB.out | apply below_alloc | apply pw_below_drewN | apply below_drew1) | exact HB.out))) : w.heap.size ≤ gb435)); have n3_ := Aside0.mk ((by rw [hg]; exact (below_size (by repeat (first | (with_reducible first | exact HB.out | apply below_alloc | apply pw_below_drewN | apply below_drew1) | exact HB.out))) : w.heap.size ≤ gb435)); clear HB; have HB := n0_; have BK435 := n1_; have GW435 := n2_; have GE435 := n3_; clear n0_ n1_ n2_ n3_; clear hb hbox hg) | ((with_reducible refine gate_callee (f := 10) rfl ?_); refine goesL_ (some 13) rfl rfl Try.func10 (by kernel_rfl) rfl #[] rfl (by (try simp only [List.map_toArray, List.map_cons, List.map_nil]); first | done | rfl | (simp only [List.length_drop, List.length_take]; rfl)) ?_; (with_reducible refine (dasdlaw20_awake.calls k  false _ A4.out).mono ?_); rintro e w93 ⟨rfl, hb⟩; refine ⟨_, rfl, ?_⟩; have n0_ := Aside0.mk (blk_below (g := gb435) (o := .cells #[.int .i64 a1_0, .int .i64 a1_1, .slice A1_2 l1_2.length c1_2] 24 (0, 0)) (by (with_reducible repeat (first | refine blk_drewN ?_ _ | refine blk_drew ?_ | refine blk_alloc ?_ _)); exact BK435.out) hb); have n1_ := Aside0.mk (below_step (by repeat (first | (with_reducible first | exact HB.out | apply below_alloc | apply pw_below_drewN | apply below_drew1 | refine below_set ?_ GE435.out) | exact HB.out)) hb); clear BK435; clear HB; have BK435 := n0_; have HB := n1_; clear n0_ n1_; (try clear hb); (try clear hb2); (try clear hk); (try clear hi)))
    go_ret
    exact ⟨by first | rfl | (simp [errW_none, errW_some] <;> rfl) | (simp [*, errW_none, errW_some] <;> rfl), by repeat (first | (with_reducible first | exact HB.out | apply below_alloc | apply pw_below_drewN | apply below_drew1 | refine below_set ?_ GE435.out) | exact HB.out)⟩

end Go.Proofs.Ytffkgdaookidbaa.XNx
