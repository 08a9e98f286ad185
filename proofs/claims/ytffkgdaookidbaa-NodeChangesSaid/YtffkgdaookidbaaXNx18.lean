/- Written by xprint.py, a program of this session: what functions of the program answer, each by a walk of its code; no condition beside those in the statements. -/
import Derived.Test.YtffkgdaookidbaaXNx0
import Derived.Test.YtffkgdaookidbaaXNx14
namespace Go.Proofs.Ytffkgdaookidbaa.XNx
open Go.RowKit Go.Proofs.YtffkgdaookidbaaW.PrintWords Go.Proofs.YtffkgdaookidbaaW.PrintLast Go.Proofs.YtffkgdaookidbaaW.PrintMore
attribute [local go_sem] max2_int min2_int max_two min_two max_three min_three max_four min_four   -- for this text's walks alone
open Go.Proofs.Ytffkgdaookidbaa.XW
set_option linter.unusedVariables false
set_option linter.unusedSimpArgs false

/-! ### dasdref20_Insert: function 16 -/
mutual
def dasdref20_Insert.j0 : Nat → Int → ByteArray → Int → Bool → Int → Int → List (S32) → Option (Int × Int × (List (S32)) × Int)
  | 0, _, _, _, _, _, _, _ => none
  | k + 1, x1, x2, x3, x32, x241000, x241001, x241002 => if x32 = true then (some (0, 0, ([] : List (S32)), 1)) else (if x2.toList = ([] : List UInt8) then (dasdref20_Insert.j1 k x1 x2 x3 true x241000 x241001 x241002) else (if (x2.size : Int) > 32 then (dasdref20_Insert.j1 k x1 x2 x3 true x241000 x241001 x241002) else (if x1 > 0 then (if 0 ≤ (wrap64 (x1 - 1)) then (if (wrap64 (x1 - 1)) < (x241002.length : Int) then (if ((Op.bytesLess (((rd_T32 x241002 (wrap64 (x1 - 1))).f0).toList) x2.toList) = true) then (if x1 < (wrap64 ((x241002.length : Int) - 1)) then (if 0 ≤ x1 then (if x1 < (x241002.length : Int) then (dasdref20_Insert.j1 k x1 x2 x3 (!(Op.bytesLess x2.toList (((rd_T32 x241002 x1).f0).toList))) x241000 x241001 x241002) else (none)) else (none)) else (dasdref20_Insert.j1 k x1 x2 x3 false x241000 x241001 x241002)) else (dasdref20_Insert.j1 k x1 x2 x3 true x241000 x241001 x241002)) else (none)) else (none)) else (if x1 < (wrap64 ((x241002.length : Int) - 1)) then (if 0 ≤ x1 then (if x1 < (x241002.length : Int) then (dasdref20_Insert.j1 k x1 x2 x3 (!(Op.bytesLess x2.toList (((rd_T32 x241002 x1).f0).toList))) x241000 x241001 x241002) else (none)) else (none)) else (dasdref20_Insert.j1 k x1 x2 x3 false x241000 x241001 x241002)))))
def dasdref20_Insert.j1 : Nat → Int → ByteArray → Int → Bool → Int → Int → List (S32) → Option (Int × Int × (List (S32)) × Int)
  | 0, _, _, _, _, _, _, _ => none
  | k + 1, x1, x2, x3, x73, x241000, x241001, x241002 => if x73 = true then (some (0, 0, ([] : List (S32)), 2)) else (if (x241002.length : Int) = 120 then (some (0, 0, ([] : List (S32)), 8)) else ((some (([] : List (S32)) : List (S32))).bind fun y246 => (if 0 ≤ x1 then (if x1 ≤ (x241002.length : Int) then ((some (x241002.take (x1 : Int).toNat : List (S32))).bind fun y249 => (if y246.length + y249.length < 5864062014805 then ((some (y246 ++ y249 : List (S32))).bind fun y253 => (if x1 < (x241002.length : Int) then ((some (([(⟨x2, (rd_T32 x241002 x1).f1⟩ : S32), (⟨(rd_T32 x241002 x1).f0, x3⟩ : S32)] : List (S32)) : List (S32))).bind fun y258 => (if y253.length + y258.length < 5864062014805 then ((some (y253 ++ y258 : List (S32))).bind fun y261 => (if 0 ≤ (wrap64 (x1 + 1)) then (if (wrap64 (x1 + 1)) ≤ (x241002.length : Int) then ((some (x241002.drop ((wrap64 (x1 + 1)) : Int).toNat : List (S32))).bind fun y264 => (if y261.length + y264.length < 5864062014805 then (some (x241000, x241001, (y261 ++ y264), 0)) else (none))) else (none)) else (none))) else (none))) else (none))) else (none))) else (none)) else (none))))
end
def dasdref20_Insert.f (k : Nat) (a0_0 : Int) (a0_1 : Int) (l0_2 : List (S32)) (a1 : Int) (a2 : ByteArray) (a3 : Int) : Option (Int × Int × (List (S32)) × Int) := (dasdref20_IsNode.f k a0_0 a0_1 l0_2).bind fun t242 => (if t242 = true then (if a3 < 1 then (dasdref20_Insert.j0 k a1 a2 a3 true a0_0 a0_1 l0_2) else (if a3 > 16777216 then (dasdref20_Insert.j0 k a1 a2 a3 true a0_0 a0_1 l0_2) else (if a1 < 0 then (dasdref20_Insert.j0 k a1 a2 a3 true a0_0 a0_1 l0_2) else (dasdref20_Insert.j0 k a1 a2 a3 (decide (a1 ≥ (l0_2.length : Int))) a0_0 a0_1 l0_2)))) else (dasdref20_Insert.j0 k a1 a2 a3 true a0_0 a0_1 l0_2))
theorem dasdref20_Insert.mono_l : ∀ k, (∀ y0 y1 y2 y3 y4 y5 y6, LeO (dasdref20_Insert.j0 k y0 y1 y2 y3 y4 y5 y6) (dasdref20_Insert.j0 (k + 1) y0 y1 y2 y3 y4 y5 y6)) ∧ (∀ y0 y1 y2 y3 y4 y5 y6, LeO (dasdref20_Insert.j1 k y0 y1 y2 y3 y4 y5 y6) (dasdref20_Insert.j1 (k + 1) y0 y1 y2 y3 y4 y5 y6))
  | 0 => ⟨fun _ _ _ _ _ _ _ r h => by simp [dasdref20_Insert.j0] at h, fun _ _ _ _ _ _ _ r h => by simp [dasdref20_Insert.j1] at h⟩
  | k + 1 => by
    obtain ⟨ih0, ih1⟩ := dasdref20_Insert.mono_l k
    refine ⟨?_, ?_⟩
    · intro y0 y1 y2 y3 y4 y5 y6
      unfold dasdref20_Insert.j0
      repeat' first
      | (with_reducible exact ih0 _ _ _ _ _ _ _)
      | (with_reducible exact ih1 _ _ _ _ _ _ _)
      | (with_reducible exact dasdref20_IsNode.mono _ _ _ _)
      | (with_reducible exact LeO.refl _)
      | (with_reducible exact LeO.none _)
      | (with_reducible refine LeO.ite ?_ ?_)
      | (with_reducible refine LeO.bind ?_ (fun _ => ?_))
      | exact ih0 _ _ _ _ _ _ _
      | exact ih1 _ _ _ _ _ _ _
      | exact dasdref20_IsNode.mono _ _ _ _
      | exact LeO.none _
      | refine LeO.ite ?_ ?_
      | refine LeO.bind ?_ (fun _ => ?_)
    · intro y0 y1 y2 y3 y4 y5 y6
      unfold dasdref20_Insert.j1
      repeat' first
      | (with_reducible exact ih0 _ _ _ _ _ _ _)
      | (with_reducible exact ih1 _ _ _ _ _ _ _)
      | (with_reducible exact dasdref20_IsNode.mono _ _ _ _)
      | (with_reducible exact LeO.refl _)
      | (with_reducible exact LeO.none _)
      | (with_reducible refine LeO.ite ?_ ?_)
      | (with_reducible refine LeO.bind ?_ (fun _ => ?_))
      | exact ih0 _ _ _ _ _ _ _
      | exact ih1 _ _ _ _ _ _ _
      | exact dasdref20_IsNode.mono _ _ _ _
      | exact LeO.none _
      | refine LeO.ite ?_ ?_
      | refine LeO.bind ?_ (fun _ => ?_)
theorem dasdref20_Insert.mono : ∀ a0 a1 a2 a3 a4 a5 k, LeO (dasdref20_Insert.f k a0 a1 a2 a3 a4 a5) (dasdref20_Insert.f (k + 1) a0 a1 a2 a3 a4 a5) := by
  intro a0 a1 a2 a3 a4 a5 k
  obtain ⟨ih0, ih1⟩ := dasdref20_Insert.mono_l k
  unfold dasdref20_Insert.f
  repeat' first
      | (with_reducible exact ih0 _ _ _ _ _ _ _)
      | (with_reducible exact ih1 _ _ _ _ _ _ _)
      | (with_reducible exact dasdref20_IsNode.mono _ _ _ _)
      | (with_reducible exact LeO.refl _)
      | (with_reducible exact LeO.none _)
      | (with_reducible refine LeO.ite ?_ ?_)
      | (with_reducible refine LeO.bind ?_ (fun _ => ?_))
      | exact ih0 _ _ _ _ _ _ _
      | exact ih1 _ _ _ _ _ _ _
      | exact dasdref20_IsNode.mono _ _ _ _
      | exact LeO.none _
      | refine LeO.ite ?_ ?_
      | refine LeO.bind ?_ (fun _ => ?_)
def dasdref20_Insert.T8 : Bool × List (List Nat × List Nat) := (true, [([], []), ([], []), ([], []), ([2], [2]), ([], []), ([3, 4], [3, 4]), ([5], [5]), ([6], [6]), ([1, 7], [1, 7]), ([], []), ([9], [9]), ([], []), ([10, 11], [10, 11]), ([12], [12]), ([13], [13]), ([], []), ([14, 15], [14, 15]), ([8, 16], [8, 16]), ([0, 17], [0, 17]), ([18, 18, 0, 1, 2, 3, 4, 5, 6, 7, 8, 9, 10, 11, 12, 13, 14, 15, 16, 17, 18], [0, 18])])
def dasdref20_Insert.B8 : List Nat := [0, 0, 0, 4, 0, 28, 60, 124, 254, 0, 512, 0, 3584, 7680, 15872, 0, 65024, 131070, 262143, 524287]
theorem dasdref20_Insert.tab8 : rtab .any (opsOf Try.f16 8) = dasdref20_Insert.T8 := by kernel_rfl
theorem dasdref20_Insert.bits8 : waitsOk dasdref20_Insert.T8.2 dasdref20_Insert.B8 = true := by kernel_rfl
set_option maxHeartbeats 8000000 in
set_option maxRecDepth 100000 in
theorem dasdref20_Insert.calls (k : Nat) (a0_0 : Int) (a0_1 : Int) (A0_2 : Option Addr) (c0_2 : Nat) (l0_2 : List (S32)) (a1 : Int) (a2 : ByteArray) (a3 : Int) (r1 : Int) (r2 : Int) (r3 : List (S32)) (r4 : Int) (w : World) (hr0_2 : Kd.C k32 w A0_2 l0_2.length l0_2) (hc0_2 : l0_2.length ≤ c0_2) (h : dasdref20_Insert.f k a0_0 a0_1 l0_2 a1 a2 a3 = some (r1, r2, r3, r4)) :
    Calls Try.prog 16 #[.agg #[.int .i64 a0_0, .int .i64 a0_1, .slice A0_2 l0_2.length c0_2], .int .i64 a1, .string a2, .int .i64 a3] w fun e w' => ∃ v2_ : Value, e = .returned (.tuple #[.agg #[.int .i64 r1, .int .i64 r2, v2_], .int .i64 r4]) ∧ Kd.R k32 32 w' w.heap.size (fun _ => True) v2_ r3 ∧ Below w.heap.size w w' := by
  have hu24 := Try.underlying24
  have hu32 := Try.underlying32
  have HR0_2 := Aside0.mk hr0_2
  have HC0_2 := Aside0.mk hc0_2
  clear hr0_2 hc0_2
  have HB := Aside0.mk (Below.refl w.heap.size w)
  have H : ((dasdref20_IsNode.f k a0_0 a0_1 l0_2).bind fun t242 => (if t242 = true then (if a3 < 1 then (dasdref20_Insert.j0 k a1 a2 a3 true a0_0 a0_1 l0_2) else (if a3 > 16777216 then (dasdref20_Insert.j0 k a1 a2 a3 true a0_0 a0_1 l0_2) else (if a1 < 0 then (dasdref20_Insert.j0 k a1 a2 a3 true a0_0 a0_1 l0_2) else (dasdref20_Insert.j0 k a1 a2 a3 (decide (a1 ≥ (l0_2.length : Int))) a0_0 a0_1 l0_2)))) else (dasdref20_Insert.j0 k a1 a2 a3 true a0_0 a0_1 l0_2))) = some (r1, r2, r3, r4) := h
  clear h
  have HC5 := Aside0.mk H
  clear H
  go_enter Try.func16, Try.ntmps16
  go_upto_region 1 with (first | ((with_reducible refine gate_dst (N := 4) rfl ?_); (try (refine gate_guard (by rfl) ?_; dsimp only)); refine box_event ?hg (N := 4) ?hd (cs := #[.int .i64 a0_0, .int .i64 a0_1, .slice A0_2 l0_2.length c0_2]) (t := 24) ?hr ?_; (case hd => rfl); (case hg => rfl); (case hr => first | (go_simp; done) | (go_simp; rfl)); intro gb240 hg w6 hbox hb; have n0_ := Aside0.mk (below_step (by repeat (first | (with_reducible first | exact HB.out | apply below_alloc | apply pw_below_drewN | apply below_drew1) | exact HB.out)) hb); have n1_ := Aside0.mk (hbox); have n2_ := Aside0.mk ((by rw [hg]; exact (below_size (by repeat (first | (with_reducible first | exact HB.out | apply below_alloc | apply pw_below_drewN | apply below_drew1) | exact HB.out))) : w.heap.size ≤ gb240)); have n3_ := Aside0.mk ((by rw [hg]; exact (below_size (by repeat (first | (with_reducible first | exact HB.out | apply below_alloc | apply pw_below_drewN | apply below_drew1) | exact HB.out))) : w.heap.size ≤ gb240)); clear HB; have HB := n0_; have BK240 := n1_; have GW240 := n2_; have GE240 := n3_; clear n0_ n1_ n2_ n3_; clear hb hbox hg) | ((with_reducible refine gate_dst (N := 8) rfl ?_); (try (refine gate_guard (by rfl) ?_; dsimp only)); refine box_event ?hg (N := 8) ?hd (cs := #[.int .i64 0, .int .i64 0, .slice none 0 0]) (t := 24) ?hr ?_; (case hd => rfl); (case hg => rfl); (case hr => first | (go_simp; done) | (go_simp; rfl)); intro gb241 hg w7 hbox hb; have n0_ := Aside0.mk (blk_below (g := gb240) (o := .cells #[.int .i64 a0_0, .int .i64 a0_1, .slice A0_2 l0_2.length c0_2] 24 (0, 0)) (by (with_reducible repeat (first | refine blk_drewN ?_ _ | refine blk_drew ?_ | refine blk_alloc ?_ _)); exact BK240.out) hb); have n1_ := Aside0.mk (below_step (by repeat (first | (with_reducible first | exact HB.out | apply below_alloc | apply pw_below_drewN | apply below_drew1 | refine below_set ?_ GE240.out) | exact HB.out)) hb); have n2_ := Aside0.mk (hbox); have n3_ := Aside0.mk ((by rw [hg]; exact (below_size (by repeat (first | (with_reducible first | exact HB.out | apply below_alloc | apply pw_below_drewN | apply below_drew1 | refine below_set ?_ GE240.out) | exact HB.out))) : w.heap.size ≤ gb241)); have n4_ := Aside0.mk ((by rw [hg]; exact (below_size (by repeat (first | (with_reducible first | exact HB.out | apply below_alloc | apply pw_below_drewN | apply below_drew1 | refine below_set ?_ GE240.out) | exact HB.out))) : w.heap.size ≤ gb241)); have n5_ := Aside0.mk ((by rw [hg]; exact Nat.ne_of_lt (blk_lt (g := gb240) (o := .cells #[.int .i64 a0_0, .int .i64 a0_1, .slice A0_2 l0_2.length c0_2] 24 (0, 0)) (by (with_reducible repeat (first | refine blk_drewN ?_ _ | refine blk_drew ?_ | refine blk_alloc ?_ _)); exact BK240.out)) : gb240 ≠ gb241)); have n6_ := Aside0.mk ((by rw [hg]; exact Nat.ne_of_gt (blk_lt (g := gb240) (o := .cells #[.int .i64 a0_0, .int .i64 a0_1, .slice A0_2 l0_2.length c0_2] 24 (0, 0)) (by (with_reducible repeat (first | refine blk_drewN ?_ _ | refine blk_drew ?_ | refine blk_alloc ?_ _)); exact BK240.out)) : gb241 ≠ gb240)); clear BK240; clear HB; have BK240 := n0_; have HB := n1_; have BK241 := n2_; have GW241 := n3_; have GE241 := n4_; have NB240_241 := n5_; have NB241_240 := n6_; clear n0_ n1_ n2_ n3_ n4_ n5_ n6_; clear hb hbox hg))
  (try simp only [Act.put, List.setIfInBounds_toArray, List.set_cons_zero, List.set_cons_succ])
  go_cut [32] (fun v32 wc => ∃ (kq : Nat) (x32_4 : Bool), v32 = .bool x32_4 ∧ Aside0 (dasdref20_Insert.j0 kq a1 a2 a3 x32_4 a0_0 a0_1 l0_2 = some (r1, r2, r3, r4)) ∧ Aside0 (kq ≤ k) ∧ Aside0 (wc.heap[gb240]? = some (.cells #[.int .i64 a0_0, .int .i64 a0_1, (.slice A0_2 l0_2.length c0_2)] 24 (0, 0))) ∧ Aside0 (wc.heap[gb241]? = some (.cells #[.int .i64 0, .int .i64 0, (.slice none 0 0)] 24 (0, 0))) ∧ Aside0 (Below w.heap.size w wc))
  case first =>
    have H := HC5.out
    clear HC5
    replace H := Option.bind_eq_some_iff.mp H
    obtain ⟨t242, A80, H⟩ := H
    replace H : (if t242 = true then (if a3 < 1 then (dasdref20_Insert.j0 k a1 a2 a3 true a0_0 a0_1 l0_2) else (if a3 > 16777216 then (dasdref20_Insert.j0 k a1 a2 a3 true a0_0 a0_1 l0_2) else (if a1 < 0 then (dasdref20_Insert.j0 k a1 a2 a3 true a0_0 a0_1 l0_2) else (dasdref20_Insert.j0 k a1 a2 a3 (decide (a1 ≥ (l0_2.length : Int))) a0_0 a0_1 l0_2)))) else (dasdref20_Insert.j0 k a1 a2 a3 true a0_0 a0_1 l0_2)) = some (r1, r2, r3, r4) := H
    have A8 := Aside0.mk A80
    clear A80
    by_cases c9 : t242 = true
    · subst c9
      have H1 : (if a3 < 1 then (dasdref20_Insert.j0 k a1 a2 a3 true a0_0 a0_1 l0_2) else (if a3 > 16777216 then (dasdref20_Insert.j0 k a1 a2 a3 true a0_0 a0_1 l0_2) else (if a1 < 0 then (dasdref20_Insert.j0 k a1 a2 a3 true a0_0 a0_1 l0_2) else (dasdref20_Insert.j0 k a1 a2 a3 (decide (a1 ≥ (l0_2.length : Int))) a0_0 a0_1 l0_2)))) = some (r1, r2, r3, r4) := by rw [if_pos rfl] at H; exact H
      clear H
      have H := H1
      clear H1
      by_cases c10 : a3 < 1
      · rw [if_pos c10] at H
        have c10b0 : decide (a3 < 1) = true := decide_eq_true c10
        clear c10
        (first | rw [c10b0] | (simp only [i64_w, i32_w]; rw [c10b0]) | skip)
        have H' := Aside0.mk H
        clear H
        have hnb11 := NB240_241.out
        have hnc11 := NB241_240.out
        have hcz12_0 : w7.cell? ⟨gb240, 0, none⟩ = some (.int .i64 a0_0) := (blk_cell BK240.out 0).trans rfl
        have hcz12_1 : w7.cell? ⟨gb240, 1, none⟩ = some (.int .i64 a0_1) := (blk_cell BK240.out 1).trans rfl
        have hcz12_2 : w7.cell? ⟨gb240, 2, none⟩ = some (.slice A0_2 l0_2.length c0_2) := (blk_cell BK240.out 2).trans rfl
        have hfz12_0 := blk_frozen BK240.out 0
        have hfz12_1 := blk_frozen BK240.out 1
        have hfz12_2 := blk_frozen BK240.out 2
        go_wp2_with (first | ((with_reducible refine gate_callee (f := 11) rfl ?_); refine goesL_ (some 12) rfl rfl Try.func11 (by kernel_rfl) rfl #[.agg #[.int .i64 a0_0, .int .i64 a0_1, .slice A0_2 l0_2.length c0_2]] rfl (by (try simp only [List.map_toArray, List.map_cons, List.map_nil]); first | done | rfl | (simp only [List.length_drop, List.length_take]; rfl)) ?_; (with_reducible refine (dasdref20_IsNode.calls k a0_0 a0_1 _ _ l0_2 true _ ?side1 ?side2 A8.out).mono ?_); (case side1 => repeat (first | exact (Kd.C_below HR0_2.out HB.out) | (with_reducible refine Kd.C_alloc ?_ _) | (with_reducible refine Kd.C_drewN ?_ _) | (with_reducible refine Kd.C_drew ?_))); (case side2 => exact HC0_2.out); rintro e w13 ⟨rfl, hb⟩; refine ⟨_, rfl, ?_⟩; have n0_ := Aside0.mk (blk_below (g := gb240) (o := .cells #[.int .i64 a0_0, .int .i64 a0_1, .slice A0_2 l0_2.length c0_2] 24 (0, 0)) (by (with_reducible repeat (first | refine blk_drewN ?_ _ | refine blk_drew ?_ | refine blk_alloc ?_ _)); exact BK240.out) hb); have n1_ := Aside0.mk (blk_below (g := gb241) (o := .cells #[.int .i64 0, .int .i64 0, .slice none 0 0] 24 (0, 0)) (by (with_reducible repeat (first | refine blk_drewN ?_ _ | refine blk_drew ?_ | refine blk_alloc ?_ _)); exact BK241.out) hb); have n2_ := Aside0.mk (below_step (by repeat (first | (with_reducible first | exact HB.out | apply below_alloc | apply pw_below_drewN | apply below_drew1 | refine below_set ?_ GE240.out | refine below_set ?_ GE241.out) | exact HB.out)) hb); clear BK240; clear BK241; clear HB; have BK240 := n0_; have BK241 := n1_; have HB := n2_; clear n0_ n1_ n2_; (try clear hb); (try clear hb2); (try clear hk); (try clear hi)))
        go_meet
        case rel => exact ⟨_, (true), (by first | rfl | (simp; done) | (simp [*]; done)), H', ⟨by first | omega | exact Nat.le_refl _⟩, ⟨by (with_reducible repeat (first | refine blk_drewN ?_ _ | refine blk_drew ?_ | refine blk_alloc ?_ _)); exact BK240.out⟩, ⟨by (with_reducible repeat (first | refine blk_drewN ?_ _ | refine blk_drew ?_ | refine blk_alloc ?_ _)); exact BK241.out⟩, ⟨by repeat (first | (with_reducible first | exact HB.out | apply below_alloc | apply pw_below_drewN | apply below_drew1 | refine below_set ?_ GE240.out | refine below_set ?_ GE241.out) | exact HB.out)⟩⟩
      · rw [if_neg c10] at H
        have c10b0 : decide (a3 < 1) = false := decide_eq_false c10
        clear c10
        (first | rw [c10b0] | (simp only [i64_w, i32_w]; rw [c10b0]) | skip)
        by_cases c14 : a3 > 16777216
        · rw [if_pos c14] at H
          have c14b0 : decide (16777216 < a3) = true := decide_eq_true c14
          clear c14
          have H' := Aside0.mk H
          clear H
          have hnb15 := NB240_241.out
          have hnc15 := NB241_240.out
          have hcz16_0 : w7.cell? ⟨gb240, 0, none⟩ = some (.int .i64 a0_0) := (blk_cell BK240.out 0).trans rfl
          have hcz16_1 : w7.cell? ⟨gb240, 1, none⟩ = some (.int .i64 a0_1) := (blk_cell BK240.out 1).trans rfl
          have hcz16_2 : w7.cell? ⟨gb240, 2, none⟩ = some (.slice A0_2 l0_2.length c0_2) := (blk_cell BK240.out 2).trans rfl
          have hfz16_0 := blk_frozen BK240.out 0
          have hfz16_1 := blk_frozen BK240.out 1
          have hfz16_2 := blk_frozen BK240.out 2
          go_wp2_with (first | ((with_reducible refine gate_callee (f := 11) rfl ?_); refine goesL_ (some 12) rfl rfl Try.func11 (by kernel_rfl) rfl #[.agg #[.int .i64 a0_0, .int .i64 a0_1, .slice A0_2 l0_2.length c0_2]] rfl (by (try simp only [List.map_toArray, List.map_cons, List.map_nil]); first | done | rfl | (simp only [List.length_drop, List.length_take]; rfl)) ?_; (with_reducible refine (dasdref20_IsNode.calls k a0_0 a0_1 _ _ l0_2 true _ ?side1 ?side2 A8.out).mono ?_); (case side1 => repeat (first | exact (Kd.C_below HR0_2.out HB.out) | (with_reducible refine Kd.C_alloc ?_ _) | (with_reducible refine Kd.C_drewN ?_ _) | (with_reducible refine Kd.C_drew ?_))); (case side2 => exact HC0_2.out); rintro e w17 ⟨rfl, hb⟩; refine ⟨_, rfl, ?_⟩; have n0_ := Aside0.mk (blk_below (g := gb240) (o := .cells #[.int .i64 a0_0, .int .i64 a0_1, .slice A0_2 l0_2.length c0_2] 24 (0, 0)) (by (with_reducible repeat (first | refine blk_drewN ?_ _ | refine blk_drew ?_ | refine blk_alloc ?_ _)); exact BK240.out) hb); have n1_ := Aside0.mk (blk_below (g := gb241) (o := .cells #[.int .i64 0, .int .i64 0, .slice none 0 0] 24 (0, 0)) (by (with_reducible repeat (first | refine blk_drewN ?_ _ | refine blk_drew ?_ | refine blk_alloc ?_ _)); exact BK241.out) hb); have n2_ := Aside0.mk (below_step (by repeat (first | (with_reducible first | exact HB.out | apply below_alloc | apply pw_below_drewN | apply below_drew1 | refine below_set ?_ GE240.out | refine below_set ?_ GE241.out) | exact HB.out)) hb); clear BK240; clear BK241; clear HB; have BK240 := n0_; have BK241 := n1_; have HB := n2_; clear n0_ n1_ n2_; (try clear hb); (try clear hb2); (try clear hk); (try clear hi)))
          go_meet
          case rel => exact ⟨_, (true), (by first | rfl | (simp; done) | (simp [*]; done)), H', ⟨by first | omega | exact Nat.le_refl _⟩, ⟨by (with_reducible repeat (first | refine blk_drewN ?_ _ | refine blk_drew ?_ | refine blk_alloc ?_ _)); exact BK240.out⟩, ⟨by (with_reducible repeat (first | refine blk_drewN ?_ _ | refine blk_drew ?_ | refine blk_alloc ?_ _)); exact BK241.out⟩, ⟨by repeat (first | (with_reducible first | exact HB.out | apply below_alloc | apply pw_below_drewN | apply below_drew1 | refine below_set ?_ GE240.out | refine below_set ?_ GE241.out) | exact HB.out)⟩⟩
        · rw [if_neg c14] at H
          have c14b0 : decide (16777216 < a3) = false := decide_eq_false c14
          clear c14
          by_cases c18 : a1 < 0
          · rw [if_pos c18] at H
            have c18b0 : decide (a1 < 0) = true := decide_eq_true c18
            clear c18
            have H' := Aside0.mk H
            clear H
            have hnb19 := NB240_241.out
            have hnc19 := NB241_240.out
            have hcz20_0 : w7.cell? ⟨gb240, 0, none⟩ = some (.int .i64 a0_0) := (blk_cell BK240.out 0).trans rfl
            have hcz20_1 : w7.cell? ⟨gb240, 1, none⟩ = some (.int .i64 a0_1) := (blk_cell BK240.out 1).trans rfl
            have hcz20_2 : w7.cell? ⟨gb240, 2, none⟩ = some (.slice A0_2 l0_2.length c0_2) := (blk_cell BK240.out 2).trans rfl
            have hfz20_0 := blk_frozen BK240.out 0
            have hfz20_1 := blk_frozen BK240.out 1
            have hfz20_2 := blk_frozen BK240.out 2
            go_wp2_with (first | ((with_reducible refine gate_callee (f := 11) rfl ?_); refine goesL_ (some 12) rfl rfl Try.func11 (by kernel_rfl) rfl #[.agg #[.int .i64 a0_0, .int .i64 a0_1, .slice A0_2 l0_2.length c0_2]] rfl (by (try simp only [List.map_toArray, List.map_cons, List.map_nil]); first | done | rfl | (simp only [List.length_drop, List.length_take]; rfl)) ?_; (with_reducible refine (dasdref20_IsNode.calls k a0_0 a0_1 _ _ l0_2 true _ ?side1 ?side2 A8.out).mono ?_); (case side1 => repeat (first | exact (Kd.C_below HR0_2.out HB.out) | (with_reducible refine Kd.C_alloc ?_ _) | (with_reducible refine Kd.C_drewN ?_ _) | (with_reducible refine Kd.C_drew ?_))); (case side2 => exact HC0_2.out); rintro e w21 ⟨rfl, hb⟩; refine ⟨_, rfl, ?_⟩; have n0_ := Aside0.mk (blk_below (g := gb240) (o := .cells #[.int .i64 a0_0, .int .i64 a0_1, .slice A0_2 l0_2.length c0_2] 24 (0, 0)) (by (with_reducible repeat (first | refine blk_drewN ?_ _ | refine blk_drew ?_ | refine blk_alloc ?_ _)); exact BK240.out) hb); have n1_ := Aside0.mk (blk_below (g := gb241) (o := .cells #[.int .i64 0, .int .i64 0, .slice none 0 0] 24 (0, 0)) (by (with_reducible repeat (first | refine blk_drewN ?_ _ | refine blk_drew ?_ | refine blk_alloc ?_ _)); exact BK241.out) hb); have n2_ := Aside0.mk (below_step (by repeat (first | (with_reducible first | exact HB.out | apply below_alloc | apply pw_below_drewN | apply below_drew1 | refine below_set ?_ GE240.out | refine below_set ?_ GE241.out) | exact HB.out)) hb); clear BK240; clear BK241; clear HB; have BK240 := n0_; have BK241 := n1_; have HB := n2_; clear n0_ n1_ n2_; (try clear hb); (try clear hb2); (try clear hk); (try clear hi)))
            go_meet
            case rel => exact ⟨_, (true), (by first | rfl | (simp; done) | (simp [*]; done)), H', ⟨by first | omega | exact Nat.le_refl _⟩, ⟨by (with_reducible repeat (first | refine blk_drewN ?_ _ | refine blk_drew ?_ | refine blk_alloc ?_ _)); exact BK240.out⟩, ⟨by (with_reducible repeat (first | refine blk_drewN ?_ _ | refine blk_drew ?_ | refine blk_alloc ?_ _)); exact BK241.out⟩, ⟨by repeat (first | (with_reducible first | exact HB.out | apply below_alloc | apply pw_below_drewN | apply below_drew1 | refine below_set ?_ GE240.out | refine below_set ?_ GE241.out) | exact HB.out)⟩⟩
          · rw [if_neg c18] at H
            have c18b0 : decide (a1 < 0) = false := decide_eq_false c18
            clear c18
            have H' := Aside0.mk H
            clear H
            have hnb22 := NB240_241.out
            have hnc22 := NB241_240.out
            have hcz23_0 : w7.cell? ⟨gb240, 0, none⟩ = some (.int .i64 a0_0) := (blk_cell BK240.out 0).trans rfl
            have hcz23_1 : w7.cell? ⟨gb240, 1, none⟩ = some (.int .i64 a0_1) := (blk_cell BK240.out 1).trans rfl
            have hcz23_2 : w7.cell? ⟨gb240, 2, none⟩ = some (.slice A0_2 l0_2.length c0_2) := (blk_cell BK240.out 2).trans rfl
            have hfz23_0 := blk_frozen BK240.out 0
            have hfz23_1 := blk_frozen BK240.out 1
            have hfz23_2 := blk_frozen BK240.out 2
            go_wp2_with (first | ((with_reducible refine gate_callee (f := 11) rfl ?_); refine goesL_ (some 12) rfl rfl Try.func11 (by kernel_rfl) rfl #[.agg #[.int .i64 a0_0, .int .i64 a0_1, .slice A0_2 l0_2.length c0_2]] rfl (by (try simp only [List.map_toArray, List.map_cons, List.map_nil]); first | done | rfl | (simp only [List.length_drop, List.length_take]; rfl)) ?_; (with_reducible refine (dasdref20_IsNode.calls k a0_0 a0_1 _ _ l0_2 true _ ?side1 ?side2 A8.out).mono ?_); (case side1 => repeat (first | exact (Kd.C_below HR0_2.out HB.out) | (with_reducible refine Kd.C_alloc ?_ _) | (with_reducible refine Kd.C_drewN ?_ _) | (with_reducible refine Kd.C_drew ?_))); (case side2 => exact HC0_2.out); rintro e w24 ⟨rfl, hb⟩; refine ⟨_, rfl, ?_⟩; have n0_ := Aside0.mk (blk_below (g := gb240) (o := .cells #[.int .i64 a0_0, .int .i64 a0_1, .slice A0_2 l0_2.length c0_2] 24 (0, 0)) (by (with_reducible repeat (first | refine blk_drewN ?_ _ | refine blk_drew ?_ | refine blk_alloc ?_ _)); exact BK240.out) hb); have n1_ := Aside0.mk (blk_below (g := gb241) (o := .cells #[.int .i64 0, .int .i64 0, .slice none 0 0] 24 (0, 0)) (by (with_reducible repeat (first | refine blk_drewN ?_ _ | refine blk_drew ?_ | refine blk_alloc ?_ _)); exact BK241.out) hb); have n2_ := Aside0.mk (below_step (by repeat (first | (with_reducible first | exact HB.out | apply below_alloc | apply pw_below_drewN | apply below_drew1 | refine below_set ?_ GE240.out | refine below_set ?_ GE241.out) | exact HB.out)) hb); clear BK240; clear BK241; clear HB; have BK240 := n0_; have BK241 := n1_; have HB := n2_; clear n0_ n1_ n2_; (try clear hb); (try clear hb2); (try clear hk); (try clear hi); have hcz25_0 : w24.cell? ⟨gb240, 0, none⟩ = some (.int .i64 a0_0) := (blk_cell BK240.out 0).trans rfl; have hcz25_1 : w24.cell? ⟨gb240, 1, none⟩ = some (.int .i64 a0_1) := (blk_cell BK240.out 1).trans rfl; have hcz25_2 : w24.cell? ⟨gb240, 2, none⟩ = some (.slice A0_2 l0_2.length c0_2) := (blk_cell BK240.out 2).trans rfl; have hfz25_0 := blk_frozen BK240.out 0; have hfz25_1 := blk_frozen BK240.out 1; have hfz25_2 := blk_frozen BK240.out 2))
            go_meet
            case rel => exact ⟨_, (decide (a1 ≥ (l0_2.length : Int))), (by first | rfl | (simp; done) | (simp [*]; done)), H', ⟨by first | omega | exact Nat.le_refl _⟩, ⟨by (with_reducible repeat (first | refine blk_drewN ?_ _ | refine blk_drew ?_ | refine blk_alloc ?_ _)); exact BK240.out⟩, ⟨by (with_reducible repeat (first | refine blk_drewN ?_ _ | refine blk_drew ?_ | refine blk_alloc ?_ _)); exact BK241.out⟩, ⟨by repeat (first | (with_reducible first | exact HB.out | apply below_alloc | apply pw_below_drewN | apply below_drew1 | refine below_set ?_ GE240.out | refine below_set ?_ GE241.out) | exact HB.out)⟩⟩
    · replace c9 := Bool.eq_false_iff.mpr c9
      subst c9
      have H1 : (dasdref20_Insert.j0 k a1 a2 a3 true a0_0 a0_1 l0_2) = some (r1, r2, r3, r4) := by rw [if_neg (show ¬ (false = true) by decide)] at H; exact H
      clear H
      have H := H1
      clear H1
      have H' := Aside0.mk H
      clear H
      have hnb26 := NB240_241.out
      have hnc26 := NB241_240.out
      have hcz27_0 : w7.cell? ⟨gb240, 0, none⟩ = some (.int .i64 a0_0) := (blk_cell BK240.out 0).trans rfl
      have hcz27_1 : w7.cell? ⟨gb240, 1, none⟩ = some (.int .i64 a0_1) := (blk_cell BK240.out 1).trans rfl
      have hcz27_2 : w7.cell? ⟨gb240, 2, none⟩ = some (.slice A0_2 l0_2.length c0_2) := (blk_cell BK240.out 2).trans rfl
      have hfz27_0 := blk_frozen BK240.out 0
      have hfz27_1 := blk_frozen BK240.out 1
      have hfz27_2 := blk_frozen BK240.out 2
      go_wp2_with (first | ((with_reducible refine gate_callee (f := 11) rfl ?_); refine goesL_ (some 12) rfl rfl Try.func11 (by kernel_rfl) rfl #[.agg #[.int .i64 a0_0, .int .i64 a0_1, .slice A0_2 l0_2.length c0_2]] rfl (by (try simp only [List.map_toArray, List.map_cons, List.map_nil]); first | done | rfl | (simp only [List.length_drop, List.length_take]; rfl)) ?_; (with_reducible refine (dasdref20_IsNode.calls k a0_0 a0_1 _ _ l0_2 false _ ?side1 ?side2 A8.out).mono ?_); (case side1 => repeat (first | exact (Kd.C_below HR0_2.out HB.out) | (with_reducible refine Kd.C_alloc ?_ _) | (with_reducible refine Kd.C_drewN ?_ _) | (with_reducible refine Kd.C_drew ?_))); (case side2 => exact HC0_2.out); rintro e w28 ⟨rfl, hb⟩; refine ⟨_, rfl, ?_⟩; have n0_ := Aside0.mk (blk_below (g := gb240) (o := .cells #[.int .i64 a0_0, .int .i64 a0_1, .slice A0_2 l0_2.length c0_2] 24 (0, 0)) (by (with_reducible repeat (first | refine blk_drewN ?_ _ | refine blk_drew ?_ | refine blk_alloc ?_ _)); exact BK240.out) hb); have n1_ := Aside0.mk (blk_below (g := gb241) (o := .cells #[.int .i64 0, .int .i64 0, .slice none 0 0] 24 (0, 0)) (by (with_reducible repeat (first | refine blk_drewN ?_ _ | refine blk_drew ?_ | refine blk_alloc ?_ _)); exact BK241.out) hb); have n2_ := Aside0.mk (below_step (by repeat (first | (with_reducible first | exact HB.out | apply below_alloc | apply pw_below_drewN | apply below_drew1 | refine below_set ?_ GE240.out | refine below_set ?_ GE241.out) | exact HB.out)) hb); clear BK240; clear BK241; clear HB; have BK240 := n0_; have BK241 := n1_; have HB := n2_; clear n0_ n1_ n2_; (try clear hb); (try clear hb2); (try clear hk); (try clear hi)))
      go_meet
      case rel => exact ⟨_, (true), (by first | rfl | (simp; done) | (simp [*]; done)), H', ⟨by first | omega | exact Nat.le_refl _⟩, ⟨by (with_reducible repeat (first | refine blk_drewN ?_ _ | refine blk_drew ?_ | refine blk_alloc ?_ _)); exact BK240.out⟩, ⟨by (with_reducible repeat (first | refine blk_drewN ?_ _ | refine blk_drew ?_ | refine blk_alloc ?_ _)); exact BK241.out⟩, ⟨by repeat (first | (with_reducible first | exact HB.out | apply below_alloc | apply pw_below_drewN | apply below_drew1 | refine below_set ?_ GE240.out | refine below_set ?_ GE241.out) | exact HB.out)⟩⟩
  case rest =>
    clear HC5
    try clear c1
    try clear c2
    try clear p2
    try clear c9
    try clear c10
    try clear c10b0
    try clear c11
    try clear c14
    try clear c14b0
    try clear c15
    try clear c16
    try clear c18
    try clear c18b0
    try clear c19
    try clear c22
    try clear c26
    try clear hcz12_0
    try clear hcz12_1
    try clear hcz12_2
    try clear hcz16_0
    try clear hcz16_1
    try clear hcz16_2
    try clear hcz20_0
    try clear hcz20_1
    try clear hcz20_2
    try clear hcz23_0
    try clear hcz23_1
    try clear hcz23_2
    try clear hcz25_0
    try clear hcz25_1
    try clear hcz25_2
    try clear hcz27_0
    try clear hcz27_1
    try clear hcz27_2
    try clear hfz12_0
    try clear hfz12_1
    try clear hfz12_2
    try clear hfz16_0
    try clear hfz16_1
    try clear hfz16_2
    try clear hfz20_0
    try clear hfz20_1
    try clear hfz20_2
    try clear hfz23_0
    try clear hfz23_1
    try clear hfz23_2
    try clear hfz25_0
    try clear hfz25_1
    try clear hfz25_2
    try clear hfz27_0
    try clear hfz27_1
    try clear hfz27_2
    obtain ⟨kq, x32_4, rfl, HA, HJ4, BK240, BK241, HB⟩ := hcut
    cases kq with
    | zero => exact absurd HA.out (by simp [dasdref20_Insert.j0])
    | succ kj4 =>
      have H := HA.out
      clear HA
      simp only [dasdref20_Insert.j0] at H
      by_cases c29 : x32_4 = true
      · subst c29
        have H1 : (some (0, 0, ([] : List (S32)), 1)) = some (r1, r2, r3, r4) := by rw [if_pos rfl] at H; exact H
        clear H
        have H := H1
        clear H1
        simp only [Option.some.injEq, Prod.mk.injEq] at H
        obtain ⟨rfl, rfl, rfl, rfl⟩ := H
        have hnb30 := NB241_240.out
        have hnc30 := NB240_241.out
        have hcz31_0 : wc.cell? ⟨gb241, 0, none⟩ = some (.int .i64 0) := (blk_cell BK241.out 0).trans rfl
        have hcz31_1 : wc.cell? ⟨gb241, 1, none⟩ = some (.int .i64 0) := (blk_cell BK241.out 1).trans rfl
        have hcz31_2 : wc.cell? ⟨gb241, 2, none⟩ = some (.slice none 0 0) := (blk_cell BK241.out 2).trans rfl
        have hfz31_0 := blk_frozen BK241.out 0
        have hfz31_1 := blk_frozen BK241.out 1
        have hfz31_2 := blk_frozen BK241.out 2
        go_wp2
        refine bodyPost_ret (results_ct rfl _ _ gb241 24 #[.int .i64 0, .int .i64 0, .slice none 0 0] (0, 0) _ rfl (by (with_reducible repeat (first | refine blk_drewN ?_ _ | refine blk_drew ?_ | refine blk_alloc ?_ _)); refine blk_put (cs := #[.int .i64 0, .int .i64 0, .slice none 0 0]) ?_ 2 _ rfl; (with_reducible repeat (first | refine blk_drewN ?_ _ | refine blk_drew ?_ | refine blk_alloc ?_ _)); refine blk_put (cs := #[.int .i64 0, .int .i64 0, .slice none 0 0]) ?_ 1 _ rfl; (with_reducible repeat (first | refine blk_drewN ?_ _ | refine blk_drew ?_ | refine blk_alloc ?_ _)); refine blk_put (cs := #[.int .i64 0, .int .i64 0, .slice none 0 0]) ?_ 0 _ rfl; (with_reducible repeat (first | refine blk_drewN ?_ _ | refine blk_drew ?_ | refine blk_alloc ?_ _)); exact BK241.out) Try.underlying24 rfl (by kernel_rfl)) rfl ?_
        exact ⟨_, by first | rfl | (simp [errW_none, errW_some] <;> rfl) | (simp [*, errW_none, errW_some] <;> rfl), by first | exact Kd.R_nil _ _ _ _ _ | exact Kd.N_nil _ _ _ _ _ | exact Kd.V_nil _ _ _ _ _ | exact Kd.Q_nil _ _ _ _ _ | exact Kd.S_nil _ _ _ _ _, by repeat (first | (with_reducible first | exact HB.out | apply below_alloc | apply pw_below_drewN | apply below_drew1 | refine below_set ?_ GE240.out | refine below_set ?_ GE241.out) | exact HB.out)⟩
      · replace c29 := Bool.eq_false_iff.mpr c29
        subst c29
        have H1 : (if a2.toList = ([] : List UInt8) then (dasdref20_Insert.j1 kj4 a1 a2 a3 true a0_0 a0_1 l0_2) else (if (a2.size : Int) > 32 then (dasdref20_Insert.j1 kj4 a1 a2 a3 true a0_0 a0_1 l0_2) else (if a1 > 0 then (if 0 ≤ (wrap64 (a1 - 1)) then (if (wrap64 (a1 - 1)) < (l0_2.length : Int) then (if ((Op.bytesLess (((rd_T32 l0_2 (wrap64 (a1 - 1))).f0).toList) a2.toList) = true) then (if a1 < (wrap64 ((l0_2.length : Int) - 1)) then (if 0 ≤ a1 then (if a1 < (l0_2.length : Int) then (dasdref20_Insert.j1 kj4 a1 a2 a3 (!(Op.bytesLess a2.toList (((rd_T32 l0_2 a1).f0).toList))) a0_0 a0_1 l0_2) else (none)) else (none)) else (dasdref20_Insert.j1 kj4 a1 a2 a3 false a0_0 a0_1 l0_2)) else (dasdref20_Insert.j1 kj4 a1 a2 a3 true a0_0 a0_1 l0_2)) else (none)) else (none)) else (if a1 < (wrap64 ((l0_2.length : Int) - 1)) then (if 0 ≤ a1 then (if a1 < (l0_2.length : Int) then (dasdref20_Insert.j1 kj4 a1 a2 a3 (!(Op.bytesLess a2.toList (((rd_T32 l0_2 a1).f0).toList))) a0_0 a0_1 l0_2) else (none)) else (none)) else (dasdref20_Insert.j1 kj4 a1 a2 a3 false a0_0 a0_1 l0_2))))) = some (r1, r2, r3, r4) := by rw [if_neg (show ¬ (false = true) by decide)] at H; exact H
        clear H
        have H := H1
        clear H1
        have HC32 := Aside0.mk H
        clear H
        go_upto_region 3 with (fail)
        go_cut [73] (fun v73 wc => ∃ (kq : Nat) (x73_31 : Bool), v73 = .bool x73_31 ∧ Aside0 (dasdref20_Insert.j1 kq a1 a2 a3 x73_31 a0_0 a0_1 l0_2 = some (r1, r2, r3, r4)) ∧ Aside0 (kq ≤ kj4) ∧ Aside0 (wc.heap[gb240]? = some (.cells #[.int .i64 a0_0, .int .i64 a0_1, (.slice A0_2 l0_2.length c0_2)] 24 (0, 0))) ∧ Aside0 (wc.heap[gb241]? = some (.cells #[.int .i64 0, .int .i64 0, (.slice none 0 0)] 24 (0, 0))) ∧ Aside0 (Below w.heap.size w wc))
        case first =>
          have H := HC32.out
          clear HC32
          by_cases c33 : a2.toList = ([] : List UInt8)
          · rw [if_pos c33] at H
            have c33b0 : (a2.toList == ([] : List UInt8)) = true := beq_iff_eq.mpr c33
            have c33b1 : (a2.toList != ([] : List UInt8)) = false := bne_eq_false_iff_eq.mpr c33
            clear c33
            (first | rw [c33b0] | (simp only [i64_w, i32_w]; rw [c33b0]) | skip)
            have H' := Aside0.mk H
            clear H
            go_wp2
            go_meet
            case rel => exact ⟨_, (true), (by first | rfl | (simp; done) | (simp [*]; done)), H', ⟨by have := HJ4.out; first | omega | exact Nat.le_refl _⟩, ⟨by (with_reducible repeat (first | refine blk_drewN ?_ _ | refine blk_drew ?_ | refine blk_alloc ?_ _)); exact BK240.out⟩, ⟨by (with_reducible repeat (first | refine blk_drewN ?_ _ | refine blk_drew ?_ | refine blk_alloc ?_ _)); exact BK241.out⟩, ⟨by repeat (first | (with_reducible first | exact HB.out | apply below_alloc | apply pw_below_drewN | apply below_drew1 | refine below_set ?_ GE240.out | refine below_set ?_ GE241.out) | exact HB.out)⟩⟩
          · rw [if_neg c33] at H
            have c33b0 : (a2.toList == ([] : List UInt8)) = false := beq_eq_false_iff_ne.mpr c33
            have c33b1 : (a2.toList != ([] : List UInt8)) = true := bne_iff_ne.mpr c33
            (first | rw [c33b0] | (simp only [i64_w, i32_w]; rw [c33b0]) | skip)
            by_cases c34 : (a2.size : Int) > 32
            · rw [if_pos c34] at H
              have c34b0 : decide (32 < (a2.size : Int)) = true := decide_eq_true c34
              have c34b1 : decide (32 < a2.size) = true := decide_eq_true (by omega)
              clear c34
              have H' := Aside0.mk H
              clear H
              go_wp2
              go_meet
              case rel => exact ⟨_, (true), (by first | rfl | (simp; done) | (simp [*]; done)), H', ⟨by have := HJ4.out; first | omega | exact Nat.le_refl _⟩, ⟨by (with_reducible repeat (first | refine blk_drewN ?_ _ | refine blk_drew ?_ | refine blk_alloc ?_ _)); exact BK240.out⟩, ⟨by (with_reducible repeat (first | refine blk_drewN ?_ _ | refine blk_drew ?_ | refine blk_alloc ?_ _)); exact BK241.out⟩, ⟨by repeat (first | (with_reducible first | exact HB.out | apply below_alloc | apply pw_below_drewN | apply below_drew1 | refine below_set ?_ GE240.out | refine below_set ?_ GE241.out) | exact HB.out)⟩⟩
            · rw [if_neg c34] at H
              have c34b0 : decide (32 < (a2.size : Int)) = false := decide_eq_false c34
              have c34b1 : decide (32 < a2.size) = false := decide_eq_false (by omega)
              clear c34
              by_cases c35 : a1 > 0
              · rw [if_pos c35] at H
                have c35b0 : decide (0 < a1) = true := decide_eq_true c35
                clear c35
                obtain ⟨ji36, hji36⟩ : ∃ j_ : Int, (wrap64 (a1 - 1)) = j_ := ⟨_, rfl⟩
                replace H : (if 0 ≤ (ji36) then (if (ji36) < (l0_2.length : Int) then (if ((Op.bytesLess (((rd_T32 l0_2 (ji36)).f0).toList) a2.toList) = true) then (if a1 < (wrap64 ((l0_2.length : Int) - 1)) then (if 0 ≤ a1 then (if a1 < (l0_2.length : Int) then (dasdref20_Insert.j1 kj4 a1 a2 a3 (!(Op.bytesLess a2.toList (((rd_T32 l0_2 a1).f0).toList))) a0_0 a0_1 l0_2) else (none)) else (none)) else (dasdref20_Insert.j1 kj4 a1 a2 a3 false a0_0 a0_1 l0_2)) else (dasdref20_Insert.j1 kj4 a1 a2 a3 true a0_0 a0_1 l0_2)) else (none)) else (none)) = some (r1, r2, r3, r4) := by first | (rw [hji36] at H; exact H) | (simp only [hji36] at H ⊢; exact H)
                have hji36w : (IntKind.i64.wrap (a1 - 1)) = ji36 := (i64_w _).trans hji36
                by_cases c37 : 0 ≤ (ji36)
                · rw [if_pos c37] at H
                  have c37b0 : decide (0 ≤ (ji36)) = true := decide_eq_true c37
                  clear c37
                  by_cases c38 : (ji36) < (l0_2.length : Int)
                  · rw [if_pos c38] at H
                    have c38b0 : decide ((ji36) < (l0_2.length : Int)) = true := decide_eq_true c38
                    clear c38
                    by_cases c39 : ((Op.bytesLess (((rd_T32 l0_2 (ji36)).f0).toList) a2.toList) = true)
                    · rw [if_pos c39] at H
                      have c39b0 : (Op.bytesLess (((rd_T32 l0_2 (ji36)).f0).toList) a2.toList) = true := c39
                      clear c39
                      by_cases c40 : a1 < (wrap64 ((l0_2.length : Int) - 1))
                      · rw [if_pos c40] at H
                        have c40b0 : decide (a1 < (wrap64 ((l0_2.length : Int) - 1))) = true := decide_eq_true c40
                        clear c40
                        by_cases c41 : 0 ≤ a1
                        · rw [if_pos c41] at H
                          have c41b0 : decide (0 ≤ a1) = true := decide_eq_true c41
                          clear c41
                          by_cases c42 : a1 < (l0_2.length : Int)
                          · rw [if_pos c42] at H
                            have c42b0 : decide (a1 < (l0_2.length : Int)) = true := decide_eq_true c42
                            clear c42
                            have H' := Aside0.mk H
                            clear H
                            have hnb43 := NB240_241.out
                            have hnc43 := NB241_240.out
                            have hcz44_0 : wc.cell? ⟨gb240, 0, none⟩ = some (.int .i64 a0_0) := (blk_cell BK240.out 0).trans rfl
                            have hcz44_1 : wc.cell? ⟨gb240, 1, none⟩ = some (.int .i64 a0_1) := (blk_cell BK240.out 1).trans rfl
                            have hcz44_2 : wc.cell? ⟨gb240, 2, none⟩ = some (.slice A0_2 l0_2.length c0_2) := (blk_cell BK240.out 2).trans rfl
                            have hfz44_0 := blk_frozen BK240.out 0
                            have hfz44_1 := blk_frozen BK240.out 1
                            have hfz44_2 := blk_frozen BK240.out 2
                            have p243 : 0 ≤ ((ji36) : Int) := of_decide_eq_true (by first | (with_reducible assumption) | assumption)
                            have q243 : (ji36) < (l0_2.length : Int) := of_decide_eq_true (by first | (with_reducible assumption) | assumption)
                            obtain ⟨ad243, e243, hx243_0, hx243_1⟩ := at_T32 HR0_2.out (ji36) p243 q243
                            cases e243
                            replace hx243_0 := (HB.out.cell (World.block_lt_of_cell? w _ hx243_0)).trans hx243_0
                            replace hx243_1 := (HB.out.cell (World.block_lt_of_cell? w _ hx243_1)).trans hx243_1
                            replace p243 := eq_true p243
                            replace q243 := eq_true q243
                            have p244 : 0 ≤ (a1 : Int) := of_decide_eq_true (by first | (with_reducible assumption) | assumption)
                            have q244 : a1 < (l0_2.length : Int) := of_decide_eq_true (by first | (with_reducible assumption) | assumption)
                            obtain ⟨ad244, e244, hx244_0, hx244_1⟩ := at_T32 HR0_2.out a1 p244 q244
                            obtain rfl : ad243 = ad244 := (by injection e244)
                            replace hx244_0 := (HB.out.cell (World.block_lt_of_cell? w _ hx244_0)).trans hx244_0
                            replace hx244_1 := (HB.out.cell (World.block_lt_of_cell? w _ hx244_1)).trans hx244_1
                            replace p244 := eq_true p244
                            replace q244 := eq_true q244
                            go_wp2
                            go_meet
                            case rel => exact ⟨_, (!(Op.bytesLess a2.toList (((rd_T32 l0_2 a1).f0).toList))), (by first | rfl | (simp; done) | (simp [*]; done)), H', ⟨by have := HJ4.out; first | omega | exact Nat.le_refl _⟩, ⟨by (with_reducible repeat (first | refine blk_drewN ?_ _ | refine blk_drew ?_ | refine blk_alloc ?_ _)); exact BK240.out⟩, ⟨by (with_reducible repeat (first | refine blk_drewN ?_ _ | refine blk_drew ?_ | refine blk_alloc ?_ _)); exact BK241.out⟩, ⟨by repeat (first | (with_reducible first | exact HB.out | apply below_alloc | apply pw_below_drewN | apply below_drew1 | refine below_set ?_ GE240.out | refine below_set ?_ GE241.out) | exact HB.out)⟩⟩
                          · rw [if_neg c42] at H
                            exact absurd H (by simp)
                        · rw [if_neg c41] at H
                          exact absurd H (by simp)
                      · rw [if_neg c40] at H
                        have c40b0 : decide (a1 < (wrap64 ((l0_2.length : Int) - 1))) = false := decide_eq_false c40
                        clear c40
                        have H' := Aside0.mk H
                        clear H
                        have hnb45 := NB240_241.out
                        have hnc45 := NB241_240.out
                        have hcz46_0 : wc.cell? ⟨gb240, 0, none⟩ = some (.int .i64 a0_0) := (blk_cell BK240.out 0).trans rfl
                        have hcz46_1 : wc.cell? ⟨gb240, 1, none⟩ = some (.int .i64 a0_1) := (blk_cell BK240.out 1).trans rfl
                        have hcz46_2 : wc.cell? ⟨gb240, 2, none⟩ = some (.slice A0_2 l0_2.length c0_2) := (blk_cell BK240.out 2).trans rfl
                        have hfz46_0 := blk_frozen BK240.out 0
                        have hfz46_1 := blk_frozen BK240.out 1
                        have hfz46_2 := blk_frozen BK240.out 2
                        have p243 : 0 ≤ ((ji36) : Int) := of_decide_eq_true (by first | (with_reducible assumption) | assumption)
                        have q243 : (ji36) < (l0_2.length : Int) := of_decide_eq_true (by first | (with_reducible assumption) | assumption)
                        obtain ⟨ad243, e243, hx243_0, hx243_1⟩ := at_T32 HR0_2.out (ji36) p243 q243
                        cases e243
                        replace hx243_0 := (HB.out.cell (World.block_lt_of_cell? w _ hx243_0)).trans hx243_0
                        replace hx243_1 := (HB.out.cell (World.block_lt_of_cell? w _ hx243_1)).trans hx243_1
                        replace p243 := eq_true p243
                        replace q243 := eq_true q243
                        go_wp2
                        go_meet
                        case rel => exact ⟨_, (false), (by first | rfl | (simp; done) | (simp [*]; done)), H', ⟨by have := HJ4.out; first | omega | exact Nat.le_refl _⟩, ⟨by (with_reducible repeat (first | refine blk_drewN ?_ _ | refine blk_drew ?_ | refine blk_alloc ?_ _)); exact BK240.out⟩, ⟨by (with_reducible repeat (first | refine blk_drewN ?_ _ | refine blk_drew ?_ | refine blk_alloc ?_ _)); exact BK241.out⟩, ⟨by repeat (first | (with_reducible first | exact HB.out | apply below_alloc | apply pw_below_drewN | apply below_drew1 | refine below_set ?_ GE240.out | refine below_set ?_ GE241.out) | exact HB.out)⟩⟩
                    · rw [if_neg c39] at H
                      have c39b0 : (Op.bytesLess (((rd_T32 l0_2 (ji36)).f0).toList) a2.toList) = false := by simpa using c39
                      clear c39
                      have H' := Aside0.mk H
                      clear H
                      have hnb47 := NB240_241.out
                      have hnc47 := NB241_240.out
                      have hcz48_0 : wc.cell? ⟨gb240, 0, none⟩ = some (.int .i64 a0_0) := (blk_cell BK240.out 0).trans rfl
                      have hcz48_1 : wc.cell? ⟨gb240, 1, none⟩ = some (.int .i64 a0_1) := (blk_cell BK240.out 1).trans rfl
                      have hcz48_2 : wc.cell? ⟨gb240, 2, none⟩ = some (.slice A0_2 l0_2.length c0_2) := (blk_cell BK240.out 2).trans rfl
                      have hfz48_0 := blk_frozen BK240.out 0
                      have hfz48_1 := blk_frozen BK240.out 1
                      have hfz48_2 := blk_frozen BK240.out 2
                      have p243 : 0 ≤ ((ji36) : Int) := of_decide_eq_true (by first | (with_reducible assumption) | assumption)
                      have q243 : (ji36) < (l0_2.length : Int) := of_decide_eq_true (by first | (with_reducible assumption) | assumption)
                      obtain ⟨ad243, e243, hx243_0, hx243_1⟩ := at_T32 HR0_2.out (ji36) p243 q243
                      cases e243
                      replace hx243_0 := (HB.out.cell (World.block_lt_of_cell? w _ hx243_0)).trans hx243_0
                      replace hx243_1 := (HB.out.cell (World.block_lt_of_cell? w _ hx243_1)).trans hx243_1
                      replace p243 := eq_true p243
                      replace q243 := eq_true q243
                      go_wp2
                      go_meet
                      case rel => exact ⟨_, (true), (by first | rfl | (simp; done) | (simp [*]; done)), H', ⟨by have := HJ4.out; first | omega | exact Nat.le_refl _⟩, ⟨by (with_reducible repeat (first | refine blk_drewN ?_ _ | refine blk_drew ?_ | refine blk_alloc ?_ _)); exact BK240.out⟩, ⟨by (with_reducible repeat (first | refine blk_drewN ?_ _ | refine blk_drew ?_ | refine blk_alloc ?_ _)); exact BK241.out⟩, ⟨by repeat (first | (with_reducible first | exact HB.out | apply below_alloc | apply pw_below_drewN | apply below_drew1 | refine below_set ?_ GE240.out | refine below_set ?_ GE241.out) | exact HB.out)⟩⟩
                  · rw [if_neg c38] at H
                    exact absurd H (by simp)
                · rw [if_neg c37] at H
                  exact absurd H (by simp)
              · rw [if_neg c35] at H
                have c35b0 : decide (0 < a1) = false := decide_eq_false c35
                clear c35
                by_cases c49 : a1 < (wrap64 ((l0_2.length : Int) - 1))
                · rw [if_pos c49] at H
                  have c49b0 : decide (a1 < (wrap64 ((l0_2.length : Int) - 1))) = true := decide_eq_true c49
                  clear c49
                  by_cases c50 : 0 ≤ a1
                  · rw [if_pos c50] at H
                    have c50b0 : decide (0 ≤ a1) = true := decide_eq_true c50
                    clear c50
                    by_cases c51 : a1 < (l0_2.length : Int)
                    · rw [if_pos c51] at H
                      have c51b0 : decide (a1 < (l0_2.length : Int)) = true := decide_eq_true c51
                      clear c51
                      have H' := Aside0.mk H
                      clear H
                      have hnb52 := NB240_241.out
                      have hnc52 := NB241_240.out
                      have hcz53_0 : wc.cell? ⟨gb240, 0, none⟩ = some (.int .i64 a0_0) := (blk_cell BK240.out 0).trans rfl
                      have hcz53_1 : wc.cell? ⟨gb240, 1, none⟩ = some (.int .i64 a0_1) := (blk_cell BK240.out 1).trans rfl
                      have hcz53_2 : wc.cell? ⟨gb240, 2, none⟩ = some (.slice A0_2 l0_2.length c0_2) := (blk_cell BK240.out 2).trans rfl
                      have hfz53_0 := blk_frozen BK240.out 0
                      have hfz53_1 := blk_frozen BK240.out 1
                      have hfz53_2 := blk_frozen BK240.out 2
                      have p245 : 0 ≤ (a1 : Int) := of_decide_eq_true (by first | (with_reducible assumption) | assumption)
                      have q245 : a1 < (l0_2.length : Int) := of_decide_eq_true (by first | (with_reducible assumption) | assumption)
                      obtain ⟨ad245, e245, hx245_0, hx245_1⟩ := at_T32 HR0_2.out a1 p245 q245
                      cases e245
                      replace hx245_0 := (HB.out.cell (World.block_lt_of_cell? w _ hx245_0)).trans hx245_0
                      replace hx245_1 := (HB.out.cell (World.block_lt_of_cell? w _ hx245_1)).trans hx245_1
                      replace p245 := eq_true p245
                      replace q245 := eq_true q245
                      go_wp2
                      go_meet
                      case rel => exact ⟨_, (!(Op.bytesLess a2.toList (((rd_T32 l0_2 a1).f0).toList))), (by first | rfl | (simp; done) | (simp [*]; done)), H', ⟨by have := HJ4.out; first | omega | exact Nat.le_refl _⟩, ⟨by (with_reducible repeat (first | refine blk_drewN ?_ _ | refine blk_drew ?_ | refine blk_alloc ?_ _)); exact BK240.out⟩, ⟨by (with_reducible repeat (first | refine blk_drewN ?_ _ | refine blk_drew ?_ | refine blk_alloc ?_ _)); exact BK241.out⟩, ⟨by repeat (first | (with_reducible first | exact HB.out | apply below_alloc | apply pw_below_drewN | apply below_drew1 | refine below_set ?_ GE240.out | refine below_set ?_ GE241.out) | exact HB.out)⟩⟩
                    · rw [if_neg c51] at H
                      exact absurd H (by simp)
                  · rw [if_neg c50] at H
                    exact absurd H (by simp)
                · rw [if_neg c49] at H
                  have c49b0 : decide (a1 < (wrap64 ((l0_2.length : Int) - 1))) = false := decide_eq_false c49
                  clear c49
                  have H' := Aside0.mk H
                  clear H
                  have hnb54 := NB240_241.out
                  have hnc54 := NB241_240.out
                  have hcz55_0 : wc.cell? ⟨gb240, 0, none⟩ = some (.int .i64 a0_0) := (blk_cell BK240.out 0).trans rfl
                  have hcz55_1 : wc.cell? ⟨gb240, 1, none⟩ = some (.int .i64 a0_1) := (blk_cell BK240.out 1).trans rfl
                  have hcz55_2 : wc.cell? ⟨gb240, 2, none⟩ = some (.slice A0_2 l0_2.length c0_2) := (blk_cell BK240.out 2).trans rfl
                  have hfz55_0 := blk_frozen BK240.out 0
                  have hfz55_1 := blk_frozen BK240.out 1
                  have hfz55_2 := blk_frozen BK240.out 2
                  go_wp2
                  go_meet
                  case rel => exact ⟨_, (false), (by first | rfl | (simp; done) | (simp [*]; done)), H', ⟨by have := HJ4.out; first | omega | exact Nat.le_refl _⟩, ⟨by (with_reducible repeat (first | refine blk_drewN ?_ _ | refine blk_drew ?_ | refine blk_alloc ?_ _)); exact BK240.out⟩, ⟨by (with_reducible repeat (first | refine blk_drewN ?_ _ | refine blk_drew ?_ | refine blk_alloc ?_ _)); exact BK241.out⟩, ⟨by repeat (first | (with_reducible first | exact HB.out | apply below_alloc | apply pw_below_drewN | apply below_drew1 | refine below_set ?_ GE240.out | refine below_set ?_ GE241.out) | exact HB.out)⟩⟩
        case rest =>
          clear HC32
          try clear c1
          try clear c2
          try clear p2
          try clear q2
          try clear hx2
          try clear c3
          try clear c4
          try clear c5
          try clear p6
          try clear c9
          try clear c10
          try clear c10b0
          try clear c11
          try clear c14
          try clear c14b0
          try clear c15
          try clear c16
          try clear c18
          try clear c18b0
          try clear c19
          try clear c22
          try clear p24
          try clear q24
          try clear hx24
          try clear c26
          try clear c29
          try clear c30
          try clear c33
          try clear c33b0
          try clear c33b1
          try clear c34
          try clear c34b0
          try clear c34b1
          try clear c35
          try clear c35b0
          try clear c37
          try clear c37b0
          try clear c38
          try clear c38b0
          try clear c39
          try clear c39b0
          try clear c40
          try clear c40b0
          try clear c41
          try clear c41b0
          try clear c42
          try clear c42b0
          try clear c43
          try clear c45
          try clear c47
          try clear c49
          try clear c49b0
          try clear c50
          try clear c50b0
          try clear c51
          try clear c51b0
          try clear c52
          try clear c54
          try clear hcz12_0
          try clear hcz12_1
          try clear hcz12_2
          try clear hcz16_0
          try clear hcz16_1
          try clear hcz16_2
          try clear hcz20_0
          try clear hcz20_1
          try clear hcz20_2
          try clear hcz23_0
          try clear hcz23_1
          try clear hcz23_2
          try clear hcz25_0
          try clear hcz25_1
          try clear hcz25_2
          try clear hcz27_0
          try clear hcz27_1
          try clear hcz27_2
          try clear hcz31_0
          try clear hcz31_1
          try clear hcz31_2
          try clear hcz44_0
          try clear hcz44_1
          try clear hcz44_2
          try clear hcz46_0
          try clear hcz46_1
          try clear hcz46_2
          try clear hcz48_0
          try clear hcz48_1
          try clear hcz48_2
          try clear hcz53_0
          try clear hcz53_1
          try clear hcz53_2
          try clear hcz55_0
          try clear hcz55_1
          try clear hcz55_2
          try clear hfz12_0
          try clear hfz12_1
          try clear hfz12_2
          try clear hfz16_0
          try clear hfz16_1
          try clear hfz16_2
          try clear hfz20_0
          try clear hfz20_1
          try clear hfz20_2
          try clear hfz23_0
          try clear hfz23_1
          try clear hfz23_2
          try clear hfz25_0
          try clear hfz25_1
          try clear hfz25_2
          try clear hfz27_0
          try clear hfz27_1
          try clear hfz27_2
          try clear hfz31_0
          try clear hfz31_1
          try clear hfz31_2
          try clear hfz44_0
          try clear hfz44_1
          try clear hfz44_2
          try clear hfz46_0
          try clear hfz46_1
          try clear hfz46_2
          try clear hfz48_0
          try clear hfz48_1
          try clear hfz48_2
          try clear hfz53_0
          try clear hfz53_1
          try clear hfz53_2
          try clear hfz55_0
          try clear hfz55_1
          try clear hfz55_2
          try clear hx243_0
          try clear hx243_1
          try clear hx244_0
          try clear hx244_1
          try clear hx245_0
          try clear hx245_1
          try clear p2
          try clear p243
          try clear p244
          try clear p245
          try clear q243
          try clear q244
          try clear q245
          obtain ⟨kq, x73_31, rfl, HA, HJ31, BK240, BK241, HB⟩ := hcut
          cases kq with
          | zero => exact absurd HA.out (by simp [dasdref20_Insert.j1])
          | succ kj31 =>
            have H := HA.out
            clear HA
            simp only [dasdref20_Insert.j1] at H
            by_cases c56 : x73_31 = true
            · subst c56
              have H1 : (some (0, 0, ([] : List (S32)), 2)) = some (r1, r2, r3, r4) := by rw [if_pos rfl] at H; exact H
              clear H
              have H := H1
              clear H1
              simp only [Option.some.injEq, Prod.mk.injEq] at H
              obtain ⟨rfl, rfl, rfl, rfl⟩ := H
              have hnb57 := NB241_240.out
              have hnc57 := NB240_241.out
              have hcz58_0 : wc.cell? ⟨gb241, 0, none⟩ = some (.int .i64 0) := (blk_cell BK241.out 0).trans rfl
              have hcz58_1 : wc.cell? ⟨gb241, 1, none⟩ = some (.int .i64 0) := (blk_cell BK241.out 1).trans rfl
              have hcz58_2 : wc.cell? ⟨gb241, 2, none⟩ = some (.slice none 0 0) := (blk_cell BK241.out 2).trans rfl
              have hfz58_0 := blk_frozen BK241.out 0
              have hfz58_1 := blk_frozen BK241.out 1
              have hfz58_2 := blk_frozen BK241.out 2
              go_wp2
              refine bodyPost_ret (results_ct rfl _ _ gb241 24 #[.int .i64 0, .int .i64 0, .slice none 0 0] (0, 0) _ rfl (by (with_reducible repeat (first | refine blk_drewN ?_ _ | refine blk_drew ?_ | refine blk_alloc ?_ _)); refine blk_put (cs := #[.int .i64 0, .int .i64 0, .slice none 0 0]) ?_ 2 _ rfl; (with_reducible repeat (first | refine blk_drewN ?_ _ | refine blk_drew ?_ | refine blk_alloc ?_ _)); refine blk_put (cs := #[.int .i64 0, .int .i64 0, .slice none 0 0]) ?_ 1 _ rfl; (with_reducible repeat (first | refine blk_drewN ?_ _ | refine blk_drew ?_ | refine blk_alloc ?_ _)); refine blk_put (cs := #[.int .i64 0, .int .i64 0, .slice none 0 0]) ?_ 0 _ rfl; (with_reducible repeat (first | refine blk_drewN ?_ _ | refine blk_drew ?_ | refine blk_alloc ?_ _)); exact BK241.out) Try.underlying24 rfl (by kernel_rfl)) rfl ?_
              exact ⟨_, by first | rfl | (simp [errW_none, errW_some] <;> rfl) | (simp [*, errW_none, errW_some] <;> rfl), by first | exact Kd.R_nil _ _ _ _ _ | exact Kd.N_nil _ _ _ _ _ | exact Kd.V_nil _ _ _ _ _ | exact Kd.Q_nil _ _ _ _ _ | exact Kd.S_nil _ _ _ _ _, by repeat (first | (with_reducible first | exact HB.out | apply below_alloc | apply pw_below_drewN | apply below_drew1 | refine below_set ?_ GE240.out | refine below_set ?_ GE241.out) | exact HB.out)⟩
            · replace c56 := Bool.eq_false_iff.mpr c56
              subst c56
              have H1 : (if (l0_2.length : Int) = 120 then (some (0, 0, ([] : List (S32)), 8)) else ((some (([] : List (S32)) : List (S32))).bind fun y246 => (if 0 ≤ a1 then (if a1 ≤ (l0_2.length : Int) then ((some (l0_2.take (a1 : Int).toNat : List (S32))).bind fun y249 => (if y246.length + y249.length < 5864062014805 then ((some (y246 ++ y249 : List (S32))).bind fun y253 => (if a1 < (l0_2.length : Int) then ((some (([(⟨a2, (rd_T32 l0_2 a1).f1⟩ : S32), (⟨(rd_T32 l0_2 a1).f0, a3⟩ : S32)] : List (S32)) : List (S32))).bind fun y258 => (if y253.length + y258.length < 5864062014805 then ((some (y253 ++ y258 : List (S32))).bind fun y261 => (if 0 ≤ (wrap64 (a1 + 1)) then (if (wrap64 (a1 + 1)) ≤ (l0_2.length : Int) then ((some (l0_2.drop ((wrap64 (a1 + 1)) : Int).toNat : List (S32))).bind fun y264 => (if y261.length + y264.length < 5864062014805 then (some (a0_0, a0_1, (y261 ++ y264), 0)) else (none))) else (none)) else (none))) else (none))) else (none))) else (none))) else (none)) else (none)))) = some (r1, r2, r3, r4) := by rw [if_neg (show ¬ (false = true) by decide)] at H; exact H
              clear H
              have H := H1
              clear H1
              by_cases c59 : (l0_2.length : Int) = 120
              · rw [if_pos c59] at H
                have c59b0 : ((l0_2.length : Int) == 120) = true := beq_iff_eq.mpr c59
                have c59b1 : ((l0_2.length : Int) != 120) = false := bne_eq_false_iff_eq.mpr c59
                clear c59
                simp only [Option.some.injEq, Prod.mk.injEq] at H
                obtain ⟨rfl, rfl, rfl, rfl⟩ := H
                have hnb60 := NB240_241.out
                have hnc60 := NB241_240.out
                have hcz61_0 : wc.cell? ⟨gb240, 0, none⟩ = some (.int .i64 a0_0) := (blk_cell BK240.out 0).trans rfl
                have hcz61_1 : wc.cell? ⟨gb240, 1, none⟩ = some (.int .i64 a0_1) := (blk_cell BK240.out 1).trans rfl
                have hcz61_2 : wc.cell? ⟨gb240, 2, none⟩ = some (.slice A0_2 l0_2.length c0_2) := (blk_cell BK240.out 2).trans rfl
                have hfz61_0 := blk_frozen BK240.out 0
                have hfz61_1 := blk_frozen BK240.out 1
                have hfz61_2 := blk_frozen BK240.out 2
                have hcz62_0 : wc.cell? ⟨gb241, 0, none⟩ = some (.int .i64 0) := (blk_cell BK241.out 0).trans rfl
                have hcz62_1 : wc.cell? ⟨gb241, 1, none⟩ = some (.int .i64 0) := (blk_cell BK241.out 1).trans rfl
                have hcz62_2 : wc.cell? ⟨gb241, 2, none⟩ = some (.slice none 0 0) := (blk_cell BK241.out 2).trans rfl
                have hfz62_0 := blk_frozen BK241.out 0
                have hfz62_1 := blk_frozen BK241.out 1
                have hfz62_2 := blk_frozen BK241.out 2
                go_wp2
                refine bodyPost_ret (results_ct rfl _ _ gb241 24 #[.int .i64 0, .int .i64 0, .slice none 0 0] (0, 0) _ rfl (by (with_reducible repeat (first | refine blk_drewN ?_ _ | refine blk_drew ?_ | refine blk_alloc ?_ _)); refine blk_put (cs := #[.int .i64 0, .int .i64 0, .slice none 0 0]) ?_ 2 _ rfl; (with_reducible repeat (first | refine blk_drewN ?_ _ | refine blk_drew ?_ | refine blk_alloc ?_ _)); refine blk_put (cs := #[.int .i64 0, .int .i64 0, .slice none 0 0]) ?_ 1 _ rfl; (with_reducible repeat (first | refine blk_drewN ?_ _ | refine blk_drew ?_ | refine blk_alloc ?_ _)); refine blk_put (cs := #[.int .i64 0, .int .i64 0, .slice none 0 0]) ?_ 0 _ rfl; (with_reducible repeat (first | refine blk_drewN ?_ _ | refine blk_drew ?_ | refine blk_alloc ?_ _)); exact BK241.out) Try.underlying24 rfl (by kernel_rfl)) rfl ?_
                exact ⟨_, by first | rfl | (simp [errW_none, errW_some] <;> rfl) | (simp [*, errW_none, errW_some] <;> rfl), by first | exact Kd.R_nil _ _ _ _ _ | exact Kd.N_nil _ _ _ _ _ | exact Kd.V_nil _ _ _ _ _ | exact Kd.Q_nil _ _ _ _ _ | exact Kd.S_nil _ _ _ _ _, by repeat (first | (with_reducible first | exact HB.out | apply below_alloc | apply pw_below_drewN | apply below_drew1 | refine below_set ?_ GE240.out | refine below_set ?_ GE241.out) | exact HB.out)⟩
              · rw [if_neg c59] at H
                have c59b0 : ((l0_2.length : Int) == 120) = false := beq_eq_false_iff_ne.mpr c59
                have c59b1 : ((l0_2.length : Int) != 120) = true := bne_iff_ne.mpr c59
                obtain ⟨y246, hy246⟩ : ∃ y_ : List (S32), y_ = (([] : List (S32))) := ⟨_, rfl⟩
                replace H : (if 0 ≤ a1 then (if a1 ≤ (l0_2.length : Int) then ((some (l0_2.take (a1 : Int).toNat : List (S32))).bind fun y249 => (if y246.length + y249.length < 5864062014805 then ((some (y246 ++ y249 : List (S32))).bind fun y253 => (if a1 < (l0_2.length : Int) then ((some (([(⟨a2, (rd_T32 l0_2 a1).f1⟩ : S32), (⟨(rd_T32 l0_2 a1).f0, a3⟩ : S32)] : List (S32)) : List (S32))).bind fun y258 => (if y253.length + y258.length < 5864062014805 then ((some (y253 ++ y258 : List (S32))).bind fun y261 => (if 0 ≤ (wrap64 (a1 + 1)) then (if (wrap64 (a1 + 1)) ≤ (l0_2.length : Int) then ((some (l0_2.drop ((wrap64 (a1 + 1)) : Int).toNat : List (S32))).bind fun y264 => (if y261.length + y264.length < 5864062014805 then (some (a0_0, a0_1, (y261 ++ y264), 0)) else (none))) else (none)) else (none))) else (none))) else (none))) else (none))) else (none)) else (none)) = some (r1, r2, r3, r4) := by first | (rw [hy246]; with_reducible exact H) | (have H2_ := (Option.bind_some _ _).symm.trans H; rw [hy246]; with_reducible exact H2_) | (have H2_ := (Option.bind_some _ _).symm.trans H; with_reducible exact H2_) | with_reducible exact H | (rw [hy246]; exact H) | exact H
                have Ny246 := Aside0.mk hy246
                clear hy246
                by_cases c63 : 0 ≤ a1
                · rw [if_pos c63] at H
                  have c63b0 := eq_true c63
                  have c63b1 : decide (0 ≤ a1) = true := decide_eq_true c63
                  clear c63
                  by_cases c64 : a1 ≤ (l0_2.length : Int)
                  · rw [if_pos c64] at H
                    have c64b0 := eq_true c64
                    have c64b1 : decide (a1 ≤ (l0_2.length : Int)) = true := decide_eq_true c64
                    clear c64
                    obtain ⟨y249, hy249⟩ : ∃ y_ : List (S32), y_ = (l0_2.take (a1 : Int).toNat) := ⟨_, rfl⟩
                    replace H : (if y246.length + y249.length < 5864062014805 then ((some (y246 ++ y249 : List (S32))).bind fun y253 => (if a1 < (l0_2.length : Int) then ((some (([(⟨a2, (rd_T32 l0_2 a1).f1⟩ : S32), (⟨(rd_T32 l0_2 a1).f0, a3⟩ : S32)] : List (S32)) : List (S32))).bind fun y258 => (if y253.length + y258.length < 5864062014805 then ((some (y253 ++ y258 : List (S32))).bind fun y261 => (if 0 ≤ (wrap64 (a1 + 1)) then (if (wrap64 (a1 + 1)) ≤ (l0_2.length : Int) then ((some (l0_2.drop ((wrap64 (a1 + 1)) : Int).toNat : List (S32))).bind fun y264 => (if y261.length + y264.length < 5864062014805 then (some (a0_0, a0_1, (y261 ++ y264), 0)) else (none))) else (none)) else (none))) else (none))) else (none))) else (none)) = some (r1, r2, r3, r4) := by first | (rw [hy249]; with_reducible exact H) | (have H2_ := (Option.bind_some _ _).symm.trans H; rw [hy249]; with_reducible exact H2_) | (have H2_ := (Option.bind_some _ _).symm.trans H; with_reducible exact H2_) | with_reducible exact H | (rw [hy249]; exact H) | exact H
                    have Ny249 := Aside0.mk hy249
                    clear hy249
                    by_cases c65 : y246.length + y249.length < 5864062014805
                    · rw [if_pos c65] at H
                      have LMc65 := Aside0.mk c65
                      clear c65
                      obtain ⟨y253, hy253⟩ : ∃ y_ : List (S32), y_ = (y246 ++ y249) := ⟨_, rfl⟩
                      replace H : (if a1 < (l0_2.length : Int) then ((some (([(⟨a2, (rd_T32 l0_2 a1).f1⟩ : S32), (⟨(rd_T32 l0_2 a1).f0, a3⟩ : S32)] : List (S32)) : List (S32))).bind fun y258 => (if y253.length + y258.length < 5864062014805 then ((some (y253 ++ y258 : List (S32))).bind fun y261 => (if 0 ≤ (wrap64 (a1 + 1)) then (if (wrap64 (a1 + 1)) ≤ (l0_2.length : Int) then ((some (l0_2.drop ((wrap64 (a1 + 1)) : Int).toNat : List (S32))).bind fun y264 => (if y261.length + y264.length < 5864062014805 then (some (a0_0, a0_1, (y261 ++ y264), 0)) else (none))) else (none)) else (none))) else (none))) else (none)) = some (r1, r2, r3, r4) := by first | (rw [hy253]; with_reducible exact H) | (have H2_ := (Option.bind_some _ _).symm.trans H; rw [hy253]; with_reducible exact H2_) | (have H2_ := (Option.bind_some _ _).symm.trans H; with_reducible exact H2_) | with_reducible exact H | (rw [hy253]; exact H) | exact H
                      have Ny253 := Aside0.mk hy253
                      clear hy253
                      by_cases c66 : a1 < (l0_2.length : Int)
                      · rw [if_pos c66] at H
                        have c66b0 : decide (a1 < (l0_2.length : Int)) = true := decide_eq_true c66
                        clear c66
                        obtain ⟨y258, hy258⟩ : ∃ y_ : List (S32), y_ = (([(⟨a2, (rd_T32 l0_2 a1).f1⟩ : S32), (⟨(rd_T32 l0_2 a1).f0, a3⟩ : S32)] : List (S32))) := ⟨_, rfl⟩
                        replace H : (if y253.length + y258.length < 5864062014805 then ((some (y253 ++ y258 : List (S32))).bind fun y261 => (if 0 ≤ (wrap64 (a1 + 1)) then (if (wrap64 (a1 + 1)) ≤ (l0_2.length : Int) then ((some (l0_2.drop ((wrap64 (a1 + 1)) : Int).toNat : List (S32))).bind fun y264 => (if y261.length + y264.length < 5864062014805 then (some (a0_0, a0_1, (y261 ++ y264), 0)) else (none))) else (none)) else (none))) else (none)) = some (r1, r2, r3, r4) := by first | (rw [hy258]; with_reducible exact H) | (have H2_ := (Option.bind_some _ _).symm.trans H; rw [hy258]; with_reducible exact H2_) | (have H2_ := (Option.bind_some _ _).symm.trans H; with_reducible exact H2_) | with_reducible exact H | (rw [hy258]; exact H) | exact H
                        have Ny258 := Aside0.mk hy258
                        clear hy258
                        by_cases c67 : y253.length + y258.length < 5864062014805
                        · rw [if_pos c67] at H
                          have LMc67 := Aside0.mk c67
                          clear c67
                          obtain ⟨y261, hy261⟩ : ∃ y_ : List (S32), y_ = (y253 ++ y258) := ⟨_, rfl⟩
                          replace H : (if 0 ≤ (wrap64 (a1 + 1)) then (if (wrap64 (a1 + 1)) ≤ (l0_2.length : Int) then ((some (l0_2.drop ((wrap64 (a1 + 1)) : Int).toNat : List (S32))).bind fun y264 => (if y261.length + y264.length < 5864062014805 then (some (a0_0, a0_1, (y261 ++ y264), 0)) else (none))) else (none)) else (none)) = some (r1, r2, r3, r4) := by first | (rw [hy261]; with_reducible exact H) | (have H2_ := (Option.bind_some _ _).symm.trans H; rw [hy261]; with_reducible exact H2_) | (have H2_ := (Option.bind_some _ _).symm.trans H; with_reducible exact H2_) | with_reducible exact H | (rw [hy261]; exact H) | exact H
                          have Ny261 := Aside0.mk hy261
                          clear hy261
                          obtain ⟨ji68, hji68⟩ : ∃ j_ : Int, (wrap64 (a1 + 1)) = j_ := ⟨_, rfl⟩
                          replace H : (if 0 ≤ (ji68) then (if (ji68) ≤ (l0_2.length : Int) then ((some (l0_2.drop ((ji68) : Int).toNat : List (S32))).bind fun y264 => (if y261.length + y264.length < 5864062014805 then (some (a0_0, a0_1, (y261 ++ y264), 0)) else (none))) else (none)) else (none)) = some (r1, r2, r3, r4) := by first | (rw [hji68] at H; exact H) | (simp only [hji68] at H ⊢; exact H)
                          have hji68w : (IntKind.i64.wrap (a1 + 1)) = ji68 := (i64_w _).trans hji68
                          by_cases c69 : 0 ≤ (ji68)
                          · rw [if_pos c69] at H
                            have c69b0 := eq_true c69
                            have c69b1 : decide (0 ≤ (ji68)) = true := decide_eq_true c69
                            clear c69
                            by_cases c70 : (ji68) ≤ (l0_2.length : Int)
                            · rw [if_pos c70] at H
                              have c70b0 := eq_true c70
                              have c70b1 : decide ((ji68) ≤ (l0_2.length : Int)) = true := decide_eq_true c70
                              clear c70
                              obtain ⟨y264, hy264⟩ : ∃ y_ : List (S32), y_ = (l0_2.drop ((ji68) : Int).toNat) := ⟨_, rfl⟩
                              replace H : (if y261.length + y264.length < 5864062014805 then (some (a0_0, a0_1, (y261 ++ y264), 0)) else (none)) = some (r1, r2, r3, r4) := by first | (rw [hy264]; with_reducible exact H) | (have H2_ := (Option.bind_some _ _).symm.trans H; rw [hy264]; with_reducible exact H2_) | (have H2_ := (Option.bind_some _ _).symm.trans H; with_reducible exact H2_) | with_reducible exact H | (rw [hy264]; exact H) | exact H
                              have Ny264 := Aside0.mk hy264
                              clear hy264
                              by_cases c71 : y261.length + y264.length < 5864062014805
                              · rw [if_pos c71] at H
                                have LMc71 := Aside0.mk c71
                                clear c71
                                obtain ⟨y268, hy268⟩ : ∃ y_ : List (S32), y_ = (y261 ++ y264) := ⟨_, rfl⟩
                                replace H : (some (a0_0, a0_1, y268, 0)) = some (r1, r2, r3, r4) := by first | (rw [hy268]; with_reducible exact H) | (have H2_ := (Option.bind_some _ _).symm.trans H; rw [hy268]; with_reducible exact H2_) | (have H2_ := (Option.bind_some _ _).symm.trans H; with_reducible exact H2_) | with_reducible exact H | (rw [hy268]; exact H) | exact H
                                have Ny268 := Aside0.mk hy268
                                clear hy268
                                simp only [Option.some.injEq, Prod.mk.injEq] at H
                                obtain ⟨rfl, rfl, rfl, rfl⟩ := H
                                have hnb72 := NB240_241.out
                                have hnc72 := NB241_240.out
                                have hcz73_0 : wc.cell? ⟨gb240, 0, none⟩ = some (.int .i64 a0_0) := (blk_cell BK240.out 0).trans rfl
                                have hcz73_1 : wc.cell? ⟨gb240, 1, none⟩ = some (.int .i64 a0_1) := (blk_cell BK240.out 1).trans rfl
                                have hcz73_2 : wc.cell? ⟨gb240, 2, none⟩ = some (.slice A0_2 l0_2.length c0_2) := (blk_cell BK240.out 2).trans rfl
                                have hfz73_0 := blk_frozen BK240.out 0
                                have hfz73_1 := blk_frozen BK240.out 1
                                have hfz73_2 := blk_frozen BK240.out 2
                                try go_wp2_with (first | ((with_reducible refine gate_dst (N := 80) rfl ?_); (try (refine gate_guard (by rfl) ?_; dsimp only)); refine Kd.R_lit k32 _ 32 ?hg (N := 80) ?hd (xs := ([] : List (S32))) (inner := []) (ok := fun _ => True) (okp := fun _ => True) ?hr ?hp (fun _ hk => hk) trivial (Below.refl _ _) (Nat.le_refl _) (by simp) ?_; (case hd => rfl); (case hg => rfl); (case hr => first | (go_simp; done) | (go_simp; rfl)); (case hp => exact (Reps.none _ _)); intro v247 w74 ho75 hb hg_ hnew_; clear hg_ hnew_; (first | rw [← Ny246.out] at ho75 | (simp only [Int.reduceToNat] at ho75; rw [← Ny246.out] at ho75)); have n0_ := Aside0.mk (Kd.R_lower ho75 (below_size (by repeat (first | (with_reducible first | exact HB.out | apply below_alloc | apply pw_below_drewN | apply below_drew1 | refine below_set ?_ GE240.out | refine below_set ?_ GE241.out) | exact HB.out)))); have n1_ := Aside0.mk (blk_below (g := gb240) (o := .cells #[.int .i64 a0_0, .int .i64 a0_1, .slice A0_2 l0_2.length c0_2] 24 (0, 0)) (by (with_reducible repeat (first | refine blk_drewN ?_ _ | refine blk_drew ?_ | refine blk_alloc ?_ _)); exact BK240.out) hb); have n2_ := Aside0.mk (blk_below (g := gb241) (o := .cells #[.int .i64 0, .int .i64 0, .slice none 0 0] 24 (0, 0)) (by (with_reducible repeat (first | refine blk_drewN ?_ _ | refine blk_drew ?_ | refine blk_alloc ?_ _)); exact BK241.out) hb); have n3_ := Aside0.mk (below_step (by repeat (first | (with_reducible first | exact HB.out | apply below_alloc | apply pw_below_drewN | apply below_drew1 | refine below_set ?_ GE240.out | refine below_set ?_ GE241.out) | exact HB.out)) hb); clear BK240; clear BK241; clear HB; have HO248 := n0_; have BK240 := n1_; have BK241 := n2_; have HB := n3_; clear n0_ n1_ n2_ n3_; clear hb ho75; have hcz76_0 : w74.cell? ⟨gb240, 0, none⟩ = some (.int .i64 a0_0) := (blk_cell BK240.out 0).trans rfl; have hcz76_1 : w74.cell? ⟨gb240, 1, none⟩ = some (.int .i64 a0_1) := (blk_cell BK240.out 1).trans rfl; have hcz76_2 : w74.cell? ⟨gb240, 2, none⟩ = some (.slice A0_2 l0_2.length c0_2) := (blk_cell BK240.out 2).trans rfl; have hfz76_0 := blk_frozen BK240.out 0; have hfz76_1 := blk_frozen BK240.out 1; have hfz76_2 := blk_frozen BK240.out 2; have q77 : (a1 : Int) ≤ ((l0_2.length : Int) : Int) := of_decide_eq_true (by first | (with_reducible assumption) | assumption); obtain ⟨i077, hi077, _, hsz77, _⟩ := info_parts info32; have hroom77 : l0_2.length ≤ c0_2 := HC0_2.out; have hC77 : Kd.C k32 _ A0_2 l0_2.length l0_2 := HR0_2.out; have hcut77 := cut_to (P := Try.prog) 22 32 .i64 Try.underlying22 hi077 A0_2 l0_2.length c0_2 a1 (of_decide_eq_true (by first | (with_reducible assumption) | assumption)) q77 hroom77; have hr77 := Kd.C_take (m := (a1 : Int).toNat) hC77 (by omega); have hy77 : y249.length = (a1 : Int).toNat := (by rw [Ny249.out, List.length_take]; omega); rw [← Ny249.out] at hr77; rw [← hy77] at hcut77; have HR252 := Aside0.mk hr77; have HC252 := Aside0.mk (show y249.length ≤ c0_2 from by omega); clear hr77 hC77 hroom77 hi077 hsz77; have KY77 := Aside0.mk hy77; clear hy77; replace q77 := eq_true q77) | ((with_reducible refine gate_builtin (b := .append) (xs := #[.tmp 80, .tmp 84]) rfl ?_); (try (refine gate_guard (by rfl) ?_; dsimp only)); at_builtin; refine Kd.R_append_rows k32 (w0 := w) w.heap.size rfl (.tmp 80) (.tmp 84) 22 32 (.agg #[(.string ⟨#[]⟩), (.int .i64 0)]) 24 rfl Try.underlying22 info32 rfl (by decide) (by omega) v247 y246 y249 _ _ _ (fun _ => True) (fun _ => False) rfl rfl ?aO ?aR (fun _ _ h => h) (fun _ h => h.elim) ?aF ?aB ?aS ?aL ?_; (case aR => repeat (first | exact (Kd.C_below HR252.out HB.out) | (with_reducible refine Kd.C_alloc ?_ _) | (with_reducible refine Kd.C_drewN ?_ _) | (with_reducible refine Kd.C_drew ?_))); (case aB => exact (by repeat (first | (with_reducible first | exact HB.out | apply below_alloc | apply pw_below_drewN | apply below_drew1 | refine below_set ?_ GE240.out | refine below_set ?_ GE241.out) | exact HB.out))); (case aF => exact (fun _ _ => trivial)); (case aO => exact (by (with_reducible repeat (first | apply Kd.R_alloc | apply Kd.R_drewN | apply Kd.R_drew)); exact HO248.out)); (case aS => exact (below_size (by repeat (first | (with_reducible first | exact HB.out | apply below_alloc | apply pw_below_drewN | apply below_drew1 | refine below_set ?_ GE240.out | refine below_set ?_ GE241.out) | exact HB.out)))); (case aL => have := LMc65.out; omega); intro v254 w78 ho hb hg hat; rw [← Ny253.out] at ho; have n0_ := Aside0.mk (blk_grown (g := gb240) (o := .cells #[.int .i64 a0_0, .int .i64 a0_1, .slice A0_2 l0_2.length c0_2] 24 (0, 0)) (by (with_reducible repeat (first | refine blk_drewN ?_ _ | refine blk_drew ?_ | refine blk_alloc ?_ _)); exact BK240.out) hg (Kd.R_ne HO248.out BK240.out (by decide))); have n1_ := Aside0.mk (blk_grown (g := gb241) (o := .cells #[.int .i64 0, .int .i64 0, .slice none 0 0] 24 (0, 0)) (by (with_reducible repeat (first | refine blk_drewN ?_ _ | refine blk_drew ?_ | refine blk_alloc ?_ _)); exact BK241.out) hg (Kd.R_ne HO248.out BK241.out (by decide))); have n2_ := Aside0.mk (hb); have n3_ := Aside0.mk (ho); clear BK240; clear BK241; clear HB; clear HO248; have BK240 := n0_; have BK241 := n1_; have HB := n2_; have HO255 := n3_; clear n0_ n1_ n2_ n3_; clear ho hb hg hat))
                                have n0_ := Aside0.mk (Kd.R_drew HO255.out)
                                have n1_ := Aside0.mk (blk_drew BK240.out)
                                have n2_ := Aside0.mk (blk_drew BK241.out)
                                have n3_ := Aside0.mk (below_drew1 HB.out)
                                clear HO255
                                clear BK240
                                clear BK241
                                clear HB
                                have HO255 := n0_
                                have BK240 := n1_
                                have BK241 := n2_
                                have HB := n3_
                                clear n0_ n1_ n2_ n3_
                                have p256 : 0 ≤ (a1 : Int) := of_decide_eq_true (by first | (with_reducible assumption) | assumption)
                                have q256 : a1 < (l0_2.length : Int) := of_decide_eq_true (by first | (with_reducible assumption) | assumption)
                                obtain ⟨ad256, e256, hx256_0, hx256_1⟩ := at_T32 HR0_2.out a1 p256 q256
                                have hw256_1 := hx256_1
                                have hw256_0 := hx256_0
                                cases e256
                                replace hx256_0 := (HB.out.cell (World.block_lt_of_cell? w _ hx256_0)).trans hx256_0
                                replace hx256_1 := (HB.out.cell (World.block_lt_of_cell? w _ hx256_1)).trans hx256_1
                                replace p256 := eq_true p256
                                replace q256 := eq_true q256
                                have p257 : 0 ≤ (a1 : Int) := of_decide_eq_true (by first | (with_reducible assumption) | assumption)
                                have q257 : a1 < (l0_2.length : Int) := of_decide_eq_true (by first | (with_reducible assumption) | assumption)
                                obtain ⟨ad257, e257, hx257_0, hx257_1⟩ := at_T32 HR0_2.out a1 p257 q257
                                have hw257_1 := hx257_1
                                have hw257_0 := hx257_0
                                obtain rfl : ad256 = ad257 := (by injection e257)
                                replace hx257_0 := (HB.out.cell (World.block_lt_of_cell? w _ hx257_0)).trans hx257_0
                                replace hx257_1 := (HB.out.cell (World.block_lt_of_cell? w _ hx257_1)).trans hx257_1
                                replace p257 := eq_true p257
                                replace q257 := eq_true q257
                                refine start_ (n := 20) (S := fun w' => w'.cell? ⟨gb240, 0, none⟩ = some (.int .i64 a0_0) ∧ w'.cell? ⟨gb240, 1, none⟩ = some (.int .i64 a0_1) ∧ w'.cell? ⟨gb240, 2, none⟩ = some (.slice (some ad256) l0_2.length c0_2) ∧ w'.cell? (ad256.add ((a1).toNat * 2)) = some (.string ((rd_T32 l0_2 a1).f0)) ∧ w'.cell? ⟨(ad256.add ((a1).toNat * 2)).block, (ad256.add ((a1).toNat * 2)).off + 1, none⟩ = some (.int .i64 ((rd_T32 l0_2 a1).f1)) ∧ w'.cell? (ad256.add ((a1).toNat * 2)) = some (.string ((rd_T32 l0_2 a1).f0)) ∧ w'.cell? ⟨(ad256.add ((a1).toNat * 2)).block, (ad256.add ((a1).toNat * 2)).off + 1, none⟩ = some (.int .i64 ((rd_T32 l0_2 a1).f1))) (ds := []) #[false, false, false, false, false, false, false, false, false, false, false, false, false, false, false, false, false, false, false, false] (by kernel_rfl) rfl rfl ⟨(blk_cell BK240.out 0).trans rfl, (blk_cell BK240.out 1).trans rfl, (blk_cell BK240.out 2).trans rfl, ((HB.out.cell (World.block_lt_of_cell? w _ hw256_0)).trans hw256_0), ((HB.out.cell (World.block_lt_of_cell? w _ hw256_1)).trans hw256_1), ((HB.out.cell (World.block_lt_of_cell? w _ hw257_0)).trans hw257_0), ((HB.out.cell (World.block_lt_of_cell? w _ hw257_1)).trans hw257_1)⟩ (fun hHeld => ?_); refine with_tabW dasdref20_Insert.tab8 dasdref20_Insert.bits8 (fun HT_ HW_ => ?_)
                                generalize w78.drew = w79 at HO255 BK240 BK241 HB hx256_0 hx256_1 hx257_0 hx257_1 hHeld ⊢
                                refine pure_ (i := 0) (N := some 86) (v := ?_) (a' := ?_) #[true, false, false, false, false, false, false, false, false, false, false, false, false, false, false, false, false, false, false, false] rfl rfl (any_of HT_.out (by kernel_rfl)) (fun _ _ _ h => h) (Or.inl ⟨by rfl, ?_⟩) ?_ ?_
                                rotate_left
                                · intro w'
                                  go_simp
                                  with_reducible rfl
                                rotate_left
                                · simp only [Act.put, List.setIfInBounds_toArray, List.set_cons_zero, List.set_cons_succ, i64_w, i32_w]
                                  rfl
                                refine pure_ (i := 1) (N := some 87) (v := ?_) (a' := ?_) #[true, true, false, false, false, false, false, false, false, false, false, false, false, false, false, false, false, false, false, false] rfl rfl (any_of HT_.out (by kernel_rfl)) (fun _ _ _ h => h) (Or.inl ⟨by rfl, ?_⟩) ?_ ?_
                                rotate_left
                                · intro w'
                                  go_simp
                                  with_reducible rfl
                                rotate_left
                                · simp only [Act.put, List.setIfInBounds_toArray, List.set_cons_zero, List.set_cons_succ, i64_w, i32_w]
                                  rfl
                                refine pure_ (i := 2) (N := some 88) (v := ?_) (a' := ?_) #[true, true, true, false, false, false, false, false, false, false, false, false, false, false, false, false, false, false, false, false] rfl rfl (any_of HT_.out (by kernel_rfl)) (fun _ _ _ h => h) (Or.inl ⟨by rfl, ?_⟩) ?_ ?_
                                rotate_left
                                · intro w'
                                  go_simp
                                  with_reducible rfl
                                rotate_left
                                · simp only [Act.put, List.setIfInBounds_toArray, List.set_cons_zero, List.set_cons_succ, i64_w, i32_w]
                                  rfl
                                refine pure_ (i := 4) (N := some 90) (v := ?_) (a' := ?_) #[true, true, true, false, true, false, false, false, false, false, false, false, false, false, false, false, false, false, false, false] rfl rfl (any_of HT_.out (by kernel_rfl)) (fun _ _ _ h => h) (Or.inl ⟨by rfl, ?_⟩) ?_ ?_
                                rotate_left
                                · intro w'
                                  go_simp
                                  with_reducible rfl
                                rotate_left
                                · simp only [Act.put, List.setIfInBounds_toArray, List.set_cons_zero, List.set_cons_succ, i64_w, i32_w]
                                  rfl
                                refine pure_ (i := 9) (N := some 95) (v := ?_) (a' := ?_) #[true, true, true, false, true, false, false, false, false, true, false, false, false, false, false, false, false, false, false, false] rfl rfl (any_of HT_.out (by kernel_rfl)) (fun _ _ _ h => h) (Or.inl ⟨by rfl, ?_⟩) ?_ ?_
                                rotate_left
                                · intro w'
                                  go_simp
                                  with_reducible rfl
                                rotate_left
                                · simp only [Act.put, List.setIfInBounds_toArray, List.set_cons_zero, List.set_cons_succ, i64_w, i32_w]
                                  rfl
                                refine pure_ (i := 11) (N := some 97) (v := ?_) (a' := ?_) #[true, true, true, false, true, false, false, false, false, true, false, true, false, false, false, false, false, false, false, false] rfl rfl (any_of HT_.out (by kernel_rfl)) (fun _ _ _ h => h) (Or.inl ⟨by rfl, ?_⟩) ?_ ?_
                                rotate_left
                                · intro w'
                                  go_simp
                                  with_reducible rfl
                                rotate_left
                                · simp only [Act.put, List.setIfInBounds_toArray, List.set_cons_zero, List.set_cons_succ, i64_w, i32_w]
                                  rfl
                                refine pure_ (i := 15) (N := some 101) (v := ?_) (a' := ?_) #[true, true, true, false, true, false, false, false, false, true, false, true, false, false, false, true, false, false, false, false] rfl rfl (any_of HT_.out (by kernel_rfl)) (fun _ _ _ h => h) (Or.inl ⟨by rfl, ?_⟩) ?_ ?_
                                rotate_left
                                · intro w'
                                  go_simp
                                  with_reducible rfl
                                rotate_left
                                · simp only [Act.put, List.setIfInBounds_toArray, List.set_cons_zero, List.set_cons_succ, i64_w, i32_w]
                                  rfl
                                refine take_ (i := 3) (N := some 89) (v := ?_) (a' := ?_) #[true, true, true, true, true, false, false, false, false, true, false, true, false, false, false, true, false, false, false, false] rfl rfl (take_ofW HT_.out HW_.out (by kernel_rfl)) (fun _ _ _ h => h) (Or.inl ⟨by rfl, ?_⟩) hHeld ?_ ?_
                                rotate_left
                                · rintro w' ⟨s0, s1, s2, s3, s4, s5, s6⟩
                                  go_simp
                                  with_reducible rfl
                                rotate_left
                                · simp only [Act.put, List.setIfInBounds_toArray, List.set_cons_zero, List.set_cons_succ, i64_w, i32_w]
                                  rfl
                                refine pure_ (i := 5) (N := some 91) (v := ?_) (a' := ?_) #[true, true, true, true, true, true, false, false, false, true, false, true, false, false, false, true, false, false, false, false] rfl rfl (any_of HT_.out (by kernel_rfl)) (fun _ _ _ h => h) (Or.inl ⟨by rfl, ?_⟩) ?_ ?_
                                rotate_left
                                · intro w'
                                  go_simp
                                  with_reducible rfl
                                rotate_left
                                · simp only [Act.put, List.setIfInBounds_toArray, List.set_cons_zero, List.set_cons_succ, i64_w, i32_w]
                                  rfl
                                refine pure_ (i := 6) (N := some 92) (v := ?_) (a' := ?_) #[true, true, true, true, true, true, true, false, false, true, false, true, false, false, false, true, false, false, false, false] rfl rfl (any_of HT_.out (by kernel_rfl)) (fun _ _ _ h => h) (Or.inl ⟨by rfl, ?_⟩) ?_ ?_
                                rotate_left
                                · intro w'
                                  go_simp
                                  with_reducible rfl
                                rotate_left
                                · simp only [Act.put, List.setIfInBounds_toArray, List.set_cons_zero, List.set_cons_succ, i64_w, i32_w]
                                  rfl
                                refine take_ (i := 7) (N := some 93) (v := ?_) (a' := ?_) #[true, true, true, true, true, true, true, true, false, true, false, true, false, false, false, true, false, false, false, false] rfl rfl (take_ofW HT_.out HW_.out (by kernel_rfl)) (fun _ _ _ h => h) (Or.inl ⟨by rfl, ?_⟩) hHeld ?_ ?_
                                rotate_left
                                · rintro w' ⟨s0, s1, s2, s3, s4, s5, s6⟩
                                  go_simp
                                  with_reducible rfl
                                rotate_left
                                · simp only [Act.put, List.setIfInBounds_toArray, List.set_cons_zero, List.set_cons_succ, i64_w, i32_w]
                                  rfl
                                refine pure_ (i := 8) (N := some 94) (v := ?_) (a' := ?_) #[true, true, true, true, true, true, true, true, true, true, false, true, false, false, false, true, false, false, false, false] rfl rfl (any_of HT_.out (by kernel_rfl)) (fun _ _ _ h => h) (Or.inl ⟨by rfl, ?_⟩) ?_ ?_
                                rotate_left
                                · intro w'
                                  go_simp
                                  with_reducible rfl
                                rotate_left
                                · simp only [Act.put, List.setIfInBounds_toArray, List.set_cons_zero, List.set_cons_succ, i64_w, i32_w]
                                  rfl
                                refine take_ (i := 10) (N := some 96) (v := ?_) (a' := ?_) #[true, true, true, true, true, true, true, true, true, true, true, true, false, false, false, true, false, false, false, false] rfl rfl (take_ofW HT_.out HW_.out (by kernel_rfl)) (fun _ _ _ h => h) (Or.inl ⟨by rfl, ?_⟩) hHeld ?_ ?_
                                rotate_left
                                · rintro w' ⟨s0, s1, s2, s3, s4, s5, s6⟩
                                  go_simp
                                  with_reducible rfl
                                rotate_left
                                · simp only [Act.put, List.setIfInBounds_toArray, List.set_cons_zero, List.set_cons_succ, i64_w, i32_w]
                                  rfl
                                refine pure_ (i := 12) (N := some 98) (v := ?_) (a' := ?_) #[true, true, true, true, true, true, true, true, true, true, true, true, true, false, false, true, false, false, false, false] rfl rfl (any_of HT_.out (by kernel_rfl)) (fun _ _ _ h => h) (Or.inl ⟨by rfl, ?_⟩) ?_ ?_
                                rotate_left
                                · intro w'
                                  go_simp
                                  with_reducible rfl
                                rotate_left
                                · simp only [Act.put, List.setIfInBounds_toArray, List.set_cons_zero, List.set_cons_succ, i64_w, i32_w]
                                  rfl
                                refine pure_ (i := 13) (N := some 99) (v := ?_) (a' := ?_) #[true, true, true, true, true, true, true, true, true, true, true, true, true, true, false, true, false, false, false, false] rfl rfl (any_of HT_.out (by kernel_rfl)) (fun _ _ _ h => h) (Or.inl ⟨by rfl, ?_⟩) ?_ ?_
                                rotate_left
                                · intro w'
                                  go_simp
                                  with_reducible rfl
                                rotate_left
                                · simp only [Act.put, List.setIfInBounds_toArray, List.set_cons_zero, List.set_cons_succ, i64_w, i32_w]
                                  rfl
                                refine take_ (i := 14) (N := some 100) (v := ?_) (a' := ?_) #[true, true, true, true, true, true, true, true, true, true, true, true, true, true, true, true, false, false, false, false] rfl rfl (take_ofW HT_.out HW_.out (by kernel_rfl)) (fun _ _ _ h => h) (Or.inl ⟨by rfl, ?_⟩) hHeld ?_ ?_
                                rotate_left
                                · rintro w' ⟨s0, s1, s2, s3, s4, s5, s6⟩
                                  go_simp
                                  with_reducible rfl
                                rotate_left
                                · simp only [Act.put, List.setIfInBounds_toArray, List.set_cons_zero, List.set_cons_succ, i64_w, i32_w]
                                  rfl
                                refine pure_ (i := 16) (N := some 102) (v := ?_) (a' := ?_) #[true, true, true, true, true, true, true, true, true, true, true, true, true, true, true, true, true, false, false, false] rfl rfl (any_of HT_.out (by kernel_rfl)) (fun _ _ _ h => h) (Or.inl ⟨by rfl, ?_⟩) ?_ ?_
                                rotate_left
                                · intro w'
                                  go_simp
                                  with_reducible rfl
                                rotate_left
                                · simp only [Act.put, List.setIfInBounds_toArray, List.set_cons_zero, List.set_cons_succ, i64_w, i32_w]
                                  rfl
                                refine one_ (i := 17) (N := some 103) #[true, true, true, true, true, true, true, true, true, true, true, true, true, true, true, true, true, true, false, false] rfl rfl (one_of HT_.out (by kernel_rfl)) (by decide) (fun K hK => ?_)
                                refine Kd.R_lit_step k32 _ 32 ?hg (N := 103) ?hd (xs := ([(⟨a2, (rd_T32 l0_2 a1).f1⟩ : S32), (⟨(rd_T32 l0_2 a1).f0, a3⟩ : S32)] : List (S32))) (inner := [.string a2, .int .i64 ((rd_T32 l0_2 a1).f1), .string ((rd_T32 l0_2 a1).f0), .int .i64 a3]) (ok := fun _ => True) (okp := fun _ => True) ?hr ?hp (fun _ hk => hk) trivial (Below.refl _ _) (Nat.le_refl _) (by simp) ?_; (case hd => rfl); (case hg => rfl); (case hr => first | (go_simp; done) | (go_simp; rfl)); (case hp => exact (Reps.c2 (show Kd.M k32 _ _ _ (⟨a2, (rd_T32 l0_2 a1).f1⟩ : S32) [.string a2, .int .i64 ((rd_T32 l0_2 a1).f1)] from (k32_mkM _ _ _ (⟨a2, (rd_T32 l0_2 a1).f1⟩ : S32) )) (Reps.c2 (show Kd.M k32 _ _ _ (⟨(rd_T32 l0_2 a1).f0, a3⟩ : S32) [.string ((rd_T32 l0_2 a1).f0), .int .i64 a3] from (k32_mkM _ _ _ (⟨(rd_T32 l0_2 a1).f0, a3⟩ : S32) )) (Reps.none _ _))))
                                intro v259 w80 ho81 hb hg_ hnew_
                                clear hg_ hnew_
                                (first | rw [← Ny258.out] at ho81 | (simp only [Int.reduceToNat] at ho81; rw [← Ny258.out] at ho81))
                                have n0_ := Aside0.mk (Kd.R_elder' (by (with_reducible repeat (first | apply Kd.R_alloc | apply Kd.R_drewN | apply Kd.R_drew)); exact HO255.out) (Kd.R_base ho81) hb)
                                have n1_ := Aside0.mk (Kd.R_lower (Kd.R_new' ho81 (Kd.R_lt (by (with_reducible repeat (first | apply Kd.R_alloc | apply Kd.R_drewN | apply Kd.R_drew)); exact HO255.out))) (below_size (by repeat (first | (with_reducible first | exact HB.out | apply below_alloc | apply pw_below_drewN | apply below_drew1 | refine below_set ?_ GE240.out | refine below_set ?_ GE241.out) | exact HB.out))))
                                have n2_ := Aside0.mk (blk_below (g := gb240) (o := .cells #[.int .i64 a0_0, .int .i64 a0_1, .slice (some ad256) l0_2.length c0_2] 24 (0, 0)) (by (with_reducible repeat (first | refine blk_drewN ?_ _ | refine blk_drew ?_ | refine blk_alloc ?_ _)); exact BK240.out) hb)
                                have n3_ := Aside0.mk (blk_below (g := gb241) (o := .cells #[.int .i64 0, .int .i64 0, .slice none 0 0] 24 (0, 0)) (by (with_reducible repeat (first | refine blk_drewN ?_ _ | refine blk_drew ?_ | refine blk_alloc ?_ _)); exact BK241.out) hb)
                                have n4_ := Aside0.mk (below_step (by repeat (first | (with_reducible first | exact HB.out | apply below_alloc | apply pw_below_drewN | apply below_drew1 | refine below_set ?_ GE240.out | refine below_set ?_ GE241.out) | exact HB.out)) hb)
                                clear HO255
                                clear BK240
                                clear BK241
                                clear HB
                                have HO255 := n0_
                                have HO260 := n1_
                                have BK240 := n2_
                                have BK241 := n3_
                                have HB := n4_
                                clear n0_ n1_ n2_ n3_ n4_
                                clear hb ho81
                                obtain ⟨Ao83, co83, eo83⟩ := Kd.R_slice HO260.out
                                (first | subst eo83 | (injection eo83 with f1_ f2_ f3_; have f4_ := f1_.symm; have f5_ := f3_.symm; clear f1_ f2_ f3_; subst f4_; subst f5_))
                                refine hK.out _ _ ⟨(blk_cell BK240.out 0).trans rfl, (blk_cell BK240.out 1).trans rfl, (blk_cell BK240.out 2).trans rfl, ((HB.out.cell (World.block_lt_of_cell? w _ hw256_0)).trans hw256_0), ((HB.out.cell (World.block_lt_of_cell? w _ hw256_1)).trans hw256_1), ((HB.out.cell (World.block_lt_of_cell? w _ hw257_0)).trans hw257_0), ((HB.out.cell (World.block_lt_of_cell? w _ hw257_1)).trans hw257_1)⟩ (fun hHeld => ?_)
                                clear hK K
                                refine norm_ (a' := ?_) ?_ ?_
                                rotate_left
                                · show Act.put _ (some 103) _ = _
                                  simp only [Act.put, List.setIfInBounds_toArray, List.set_cons_zero, List.set_cons_succ, i64_w, i32_w]
                                  rfl
                                refine one_ (i := 18) (N := some 104) #[true, true, true, true, true, true, true, true, true, true, true, true, true, true, true, true, true, true, true, false] rfl rfl (one_of HT_.out (by kernel_rfl)) (by decide) (fun K hK => ?_)
                                refine Kd.R_append_rows_step k32 (w0 := w) w.heap.size (by rfl) (.tmp 86) (.tmp 103) 22 32 (.agg #[(.string ⟨#[]⟩), (.int .i64 0)]) 24 rfl Try.underlying22 info32 rfl (by decide) (by omega) v254 y253 y258 _ _ _ (fun k_ => some k_ ≠ (.slice Ao83 y258.length co83 : Value).ownBlock) (fun _ => False) rfl rfl ?aO ?aR (fun _ _ h => h) (fun _ h => h.elim) ?aF ?aB ?aS ?aL ?_
                                (case aR => repeat (first | exact (Kd.R_reads' HO260.out).2.2 | (with_reducible refine Kd.C_alloc ?_ _) | (with_reducible refine Kd.C_drewN ?_ _) | (with_reducible refine Kd.C_drew ?_)))
                                (case aB => exact (by repeat (first | (with_reducible first | exact HB.out | apply below_alloc | apply pw_below_drewN | apply below_drew1 | refine below_set ?_ GE240.out | refine below_set ?_ GE241.out) | exact HB.out)))
                                (case aF => exact (fun k_ hk => Kd.fresh' (Kd.R_lt (by (with_reducible repeat (first | apply Kd.R_alloc | apply Kd.R_drewN | apply Kd.R_drew)); exact HO260.out)) k_ hk))
                                (case aO => exact (by (with_reducible repeat (first | apply Kd.R_alloc | apply Kd.R_drewN | apply Kd.R_drew)); exact Kd.R_mono HO255.out (fun _ hk => hk.2)))
                                (case aS => exact (below_size (by repeat (first | (with_reducible first | exact HB.out | apply below_alloc | apply pw_below_drewN | apply below_drew1 | refine below_set ?_ GE240.out | refine below_set ?_ GE241.out) | exact HB.out))))
                                (case aL => have := LMc67.out; omega)
                                intro v262 w82 ho hb hg hat
                                rw [← Ny261.out] at ho
                                have n0_ := Aside0.mk (blk_grown (g := gb240) (o := .cells #[.int .i64 a0_0, .int .i64 a0_1, .slice (some ad256) l0_2.length c0_2] 24 (0, 0)) (by (with_reducible repeat (first | refine blk_drewN ?_ _ | refine blk_drew ?_ | refine blk_alloc ?_ _)); exact BK240.out) hg (Kd.R_ne HO255.out BK240.out (by decide)))
                                have n1_ := Aside0.mk (blk_grown (g := gb241) (o := .cells #[.int .i64 0, .int .i64 0, .slice none 0 0] 24 (0, 0)) (by (with_reducible repeat (first | refine blk_drewN ?_ _ | refine blk_drew ?_ | refine blk_alloc ?_ _)); exact BK241.out) hg (Kd.R_ne HO255.out BK241.out (by decide)))
                                have n2_ := Aside0.mk (Kd.R_after (ok := (fun _ => True)) (by (with_reducible repeat (first | apply Kd.R_alloc | apply Kd.R_drewN | apply Kd.R_drew)); exact HO260.out) hg hat)
                                have n3_ := Aside0.mk (hb)
                                have n4_ := Aside0.mk (ho)
                                clear BK240
                                clear BK241
                                clear HO260
                                clear HB
                                clear HO255
                                have BK240 := n0_
                                have BK241 := n1_
                                have HO260 := n2_
                                have HB := n3_
                                have HO263 := n4_
                                clear n0_ n1_ n2_ n3_ n4_
                                clear ho hb hg hat
                                refine hK.out _ _ ⟨(blk_cell BK240.out 0).trans rfl, (blk_cell BK240.out 1).trans rfl, (blk_cell BK240.out 2).trans rfl, ((HB.out.cell (World.block_lt_of_cell? w _ hw256_0)).trans hw256_0), ((HB.out.cell (World.block_lt_of_cell? w _ hw256_1)).trans hw256_1), ((HB.out.cell (World.block_lt_of_cell? w _ hw257_0)).trans hw257_0), ((HB.out.cell (World.block_lt_of_cell? w _ hw257_1)).trans hw257_1)⟩ (fun hHeld => ?_)
                                clear hK K
                                refine norm_ (a' := ?_) ?_ ?_
                                rotate_left
                                · show Act.put _ (some 104) _ = _
                                  simp only [Act.put, List.setIfInBounds_toArray, List.set_cons_zero, List.set_cons_succ, i64_w, i32_w]
                                  rfl
                                refine pure_ (i := 19) (N := some 10) (v := ?_) (a' := ?_) #[true, true, true, true, true, true, true, true, true, true, true, true, true, true, true, true, true, true, true, true] rfl rfl (any_of HT_.out (by kernel_rfl)) (fun _ _ _ h => h) (Or.inl ⟨by rfl, ?_⟩) ?_ ?_
                                rotate_left
                                · intro w'
                                  go_simp
                                  with_reducible rfl
                                rotate_left
                                · simp only [Act.put, List.setIfInBounds_toArray, List.set_cons_zero, List.set_cons_succ, i64_w, i32_w]
                                  rfl
                                refine done_ (done_of HT_.out (by kernel_rfl)) ?_
                                have hcz84_0 : w82.cell? ⟨gb240, 0, none⟩ = some (.int .i64 a0_0) := (blk_cell BK240.out 0).trans rfl
                                have hcz84_1 : w82.cell? ⟨gb240, 1, none⟩ = some (.int .i64 a0_1) := (blk_cell BK240.out 1).trans rfl
                                have hcz84_2 : w82.cell? ⟨gb240, 2, none⟩ = some (.slice (some ad256) l0_2.length c0_2) := (blk_cell BK240.out 2).trans rfl
                                have hfz84_0 := blk_frozen BK240.out 0
                                have hfz84_1 := blk_frozen BK240.out 1
                                have hfz84_2 := blk_frozen BK240.out 2
                                have q85 : ((ji68) : Int) ≤ ((l0_2.length : Int) : Int) := of_decide_eq_true (by first | (with_reducible assumption) | assumption)
                                obtain ⟨i085, hi085, _, hsz85, _⟩ := info_parts info32
                                have hroom85 : l0_2.length ≤ c0_2 := HC0_2.out
                                have hC85 : Kd.C k32 _ (some ad256) l0_2.length l0_2 := HR0_2.out
                                have q085 : (0 : Int) ≤ ((ji68) : Int) := of_decide_eq_true (by first | (with_reducible assumption) | assumption)
                                have hcut85 := cut_from (P := Try.prog) 22 32 .i64 Try.underlying22 hi085 2 hsz85 (some ad256) l0_2.length c0_2 (ji68) q085 q85
                                have hr85 := Kd.C_drop (m := ((ji68) : Int).toNat) (c := c0_2) hC85 (by omega) hroom85
                                obtain ⟨A85, hA85⟩ : ∃ A1, A1 = (if c0_2 = ((ji68) : Int).toNat then (some ad256) else ((some ad256) : Option Addr).map (·.add (((ji68) : Int).toNat * 2))) := ⟨_, rfl⟩
                                obtain ⟨c85, hc85⟩ : ∃ c1, c1 = c0_2 - ((ji68) : Int).toNat := ⟨_, rfl⟩
                                have hy85 : y264.length = l0_2.length - ((ji68) : Int).toNat := (by rw [Ny264.out, List.length_drop] <;> omega)
                                rw [show (l0_2).drop ((ji68) : Int).toNat = y264 from Ny264.out.symm] at hr85
                                replace hr85 : Kd.C k32 _ A85 y264.length y264 := (by rw [hA85]; exact hr85)
                                rw [← hy85, ← hA85, ← hc85] at hcut85
                                have HR267 := Aside0.mk hr85
                                have HC267 := Aside0.mk (show y264.length ≤ c85 from by rw [hy85, hc85]; exact Nat.sub_le_sub_right hroom85 _)
                                clear hr85 hC85 hroom85 hi085 hsz85 hc85
                                have KY85 := Aside0.mk hy85
                                have KA85 := Aside0.mk hA85
                                clear hy85 hA85
                                replace q85 := eq_true q85
                                try go_wp2_with (first | ((with_reducible refine gate_builtin (b := .append) (xs := #[.tmp 105, .tmp 110]) rfl ?_); (try (refine gate_guard (by rfl) ?_; dsimp only)); at_builtin; refine Kd.R_append_rows k32 (w0 := w) w.heap.size rfl (.tmp 105) (.tmp 110) 22 32 (.agg #[(.string ⟨#[]⟩), (.int .i64 0)]) 24 rfl Try.underlying22 info32 rfl (by decide) (by omega) v262 y261 y264 _ _ _ (fun k_ => some k_ ≠ (.slice Ao83 y258.length co83 : Value).ownBlock) (fun _ => False) rfl rfl ?aO ?aR (fun _ _ h => h) (fun _ h => h.elim) ?aF ?aB ?aS ?aL ?_; (case aR => repeat (first | exact (Kd.C_below HR267.out HB.out) | (with_reducible refine Kd.C_alloc ?_ _) | (with_reducible refine Kd.C_drewN ?_ _) | (with_reducible refine Kd.C_drew ?_))); (case aB => exact (by repeat (first | (with_reducible first | exact HB.out | apply below_alloc | apply pw_below_drewN | apply below_drew1 | refine below_set ?_ GE240.out | refine below_set ?_ GE241.out) | exact HB.out))); (case aF => exact (fun k_ hk => Kd.fresh' (Kd.R_lt (by (with_reducible repeat (first | apply Kd.R_alloc | apply Kd.R_drewN | apply Kd.R_drew)); exact HO260.out)) k_ hk)); (case aO => exact (by (with_reducible repeat (first | apply Kd.R_alloc | apply Kd.R_drewN | apply Kd.R_drew)); exact HO263.out)); (case aS => exact (below_size (by repeat (first | (with_reducible first | exact HB.out | apply below_alloc | apply pw_below_drewN | apply below_drew1 | refine below_set ?_ GE240.out | refine below_set ?_ GE241.out) | exact HB.out)))); (case aL => have := LMc71.out; omega); intro v269 w86 ho hb hg hat; rw [← Ny268.out] at ho; have n0_ := Aside0.mk (blk_grown (g := gb240) (o := .cells #[.int .i64 a0_0, .int .i64 a0_1, .slice (some ad256) l0_2.length c0_2] 24 (0, 0)) (by (with_reducible repeat (first | refine blk_drewN ?_ _ | refine blk_drew ?_ | refine blk_alloc ?_ _)); exact BK240.out) hg (Kd.R_ne HO263.out BK240.out (by decide))); have n1_ := Aside0.mk (blk_grown (g := gb241) (o := .cells #[.int .i64 0, .int .i64 0, .slice none 0 0] 24 (0, 0)) (by (with_reducible repeat (first | refine blk_drewN ?_ _ | refine blk_drew ?_ | refine blk_alloc ?_ _)); exact BK241.out) hg (Kd.R_ne HO263.out BK241.out (by decide))); have n2_ := Aside0.mk (Kd.R_after (ok := (fun _ => True)) (by (with_reducible repeat (first | apply Kd.R_alloc | apply Kd.R_drewN | apply Kd.R_drew)); exact HO260.out) hg hat); have n3_ := Aside0.mk (hb); have n4_ := Aside0.mk (ho); clear BK240; clear BK241; clear HO260; clear HB; clear HO263; have BK240 := n0_; have BK241 := n1_; have HO260 := n2_; have HB := n3_; have HO270 := n4_; clear n0_ n1_ n2_ n3_ n4_; clear ho hb hg hat; obtain ⟨Ao87, co87, eo87⟩ := Kd.R_slice HO270.out; subst eo87; have hcz88_0 : w86.cell? ⟨gb240, 0, none⟩ = some (.int .i64 a0_0) := (blk_cell BK240.out 0).trans rfl; have hcz88_1 : w86.cell? ⟨gb240, 1, none⟩ = some (.int .i64 a0_1) := (blk_cell BK240.out 1).trans rfl; have hcz88_2 : w86.cell? ⟨gb240, 2, none⟩ = some (.slice (some ad256) l0_2.length c0_2) := (blk_cell BK240.out 2).trans rfl; have hfz88_0 := blk_frozen BK240.out 0; have hfz88_1 := blk_frozen BK240.out 1; have hfz88_2 := blk_frozen BK240.out 2; have hcz89_0 : w86.cell? ⟨gb241, 0, none⟩ = some (.int .i64 0) := (blk_cell BK241.out 0).trans rfl; have hcz89_1 : w86.cell? ⟨gb241, 1, none⟩ = some (.int .i64 0) := (blk_cell BK241.out 1).trans rfl; have hcz89_2 : w86.cell? ⟨gb241, 2, none⟩ = some (.slice none 0 0) := (blk_cell BK241.out 2).trans rfl; have hfz89_0 := blk_frozen BK241.out 0; have hfz89_1 := blk_frozen BK241.out 1; have hfz89_2 := blk_frozen BK241.out 2))
                                refine bodyPost_ret (results_ct rfl _ _ gb241 24 #[.int .i64 a0_0, .int .i64 a0_1, .slice Ao87 y268.length co87] (0, 0) _ rfl (by (with_reducible repeat (first | refine blk_drewN ?_ _ | refine blk_drew ?_ | refine blk_alloc ?_ _)); refine blk_put (cs := #[.int .i64 a0_0, .int .i64 a0_1, .slice none 0 0]) ?_ 2 _ rfl; (with_reducible repeat (first | refine blk_drewN ?_ _ | refine blk_drew ?_ | refine blk_alloc ?_ _)); refine blk_put (cs := #[.int .i64 a0_0, .int .i64 0, .slice none 0 0]) ?_ 1 _ rfl; (with_reducible repeat (first | refine blk_drewN ?_ _ | refine blk_drew ?_ | refine blk_alloc ?_ _)); refine blk_put (cs := #[.int .i64 0, .int .i64 0, .slice none 0 0]) ?_ 0 _ rfl; (with_reducible repeat (first | refine blk_drewN ?_ _ | refine blk_drew ?_ | refine blk_alloc ?_ _)); refine blk_far ?_ NB241_240.out _; (with_reducible repeat (first | refine blk_drewN ?_ _ | refine blk_drew ?_ | refine blk_alloc ?_ _)); exact BK241.out) Try.underlying24 rfl (by kernel_rfl)) rfl ?_
                                exact ⟨_, by first | rfl | (simp [errW_none, errW_some] <;> rfl) | (simp only [← hji68]; first | rfl | (simp [errW_none, errW_some] <;> rfl)) | (simp [*, errW_none, errW_some] <;> rfl), by (with_reducible repeat (first | apply Kd.R_alloc | apply Kd.R_drewN | apply Kd.R_drew)); exact Kd.R_mono (Kd.R_far (p := ⟨gb241, 2, none⟩) (Kd.R_far (p := ⟨gb241, 1, none⟩) (Kd.R_far (p := ⟨gb241, 0, none⟩) (Kd.R_far (p := ⟨gb240, 2, none⟩) (Kd.R_types (Kd.R_types HO270.out BK240.out (by decide)) BK241.out (by decide)) (fun _ hk => hk.1.2) (.slice Ao87 y268.length co87)) (fun _ hk => hk.2) (.int .i64 a0_0)) (fun _ hk => hk.2) (.int .i64 a0_1)) (fun _ hk => hk.2) (.slice Ao87 y268.length co87)) (fun _ hk => trivial), by repeat (first | (with_reducible first | exact HB.out | apply below_alloc | apply pw_below_drewN | apply below_drew1 | refine below_set ?_ GE240.out | refine below_set ?_ GE241.out) | exact HB.out)⟩
                              · rw [if_neg c71] at H
                                exact absurd H (by simp)
                            · rw [if_neg c70] at H
                              exact absurd H (by simp)
                          · rw [if_neg c69] at H
                            exact absurd H (by simp)
                        · rw [if_neg c67] at H
                          exact absurd H (by simp)
                      · rw [if_neg c66] at H
                        exact absurd H (by simp)
                    · rw [if_neg c65] at H
                      exact absurd H (by simp)
                  · rw [if_neg c64] at H
                    exact absurd H (by simp)
                · rw [if_neg c63] at H
                  exact absurd H (by simp)

end Go.Proofs.Ytffkgdaookidbaa.XNx
