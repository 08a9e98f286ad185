/- Written by xprint.py, a program of this session: what functions of the program answer, each by a walk of its code; no condition beside those in the statements. -/
import Derived.Test.YtffkgdaookidbaaXNx0
import Derived.Test.YtffkgdaookidbaaXNx13
import Derived.Test.YtffkgdaookidbaaXNx14
import Derived.Test.YtffkgdaookidbaaExtFind
namespace Go.Proofs.Ytffkgdaookidbaa.XNx
open Go.RowKit Go.Proofs.YtffkgdaookidbaaW.PrintWords Go.Proofs.YtffkgdaookidbaaW.PrintLast Go.Proofs.YtffkgdaookidbaaW.PrintMore
attribute [local go_sem] max2_int min2_int max_two min_two max_three min_three max_four min_four   -- for this text's walks alone
open Go.Proofs.Ytffkgdaookidbaa.XW
set_option linter.unusedVariables false
set_option linter.unusedSimpArgs false

/-! ### dasdlaw20_NodeLeads: function 6 -/
def dasdlaw20_NodeLeads.j0 : Nat → ByteArray → Bool → Int → Int → List (S32) → Option (Bool)
  | 0, _, _, _, _, _ => none
  | k + 1, x1, x15, x407000, x407001, x407002 => if x15 = true then (some true) else ((node_Find.f x407000 x407001 x407002 x1).bind fun t409 => (if t409 < 0 then (some false) else (if t409 ≥ (x407002.length : Int) then (some false) else (if t409 = (wrap64 ((x407002.length : Int) - 1)) then (if t409 = 0 then (some true) else (if 0 ≤ (wrap64 (t409 - 1)) then (if (wrap64 (t409 - 1)) < (x407002.length : Int) then (some (!(Op.bytesLess x1.toList (((rd_T32 x407002 (wrap64 (t409 - 1))).f0).toList)))) else (none)) else (none))) else (if 0 ≤ t409 then (if t409 < (x407002.length : Int) then (if (Op.bytesLess x1.toList (((rd_T32 x407002 t409).f0).toList)) = true then (if t409 = 0 then (some true) else (if 0 ≤ (wrap64 (t409 - 1)) then (if (wrap64 (t409 - 1)) < (x407002.length : Int) then (some (!(Op.bytesLess x1.toList (((rd_T32 x407002 (wrap64 (t409 - 1))).f0).toList)))) else (none)) else (none))) else (some false)) else (none)) else (none))))))
def dasdlaw20_NodeLeads.f (k : Nat) (a0_0 : Int) (a0_1 : Int) (l0_2 : List (S32)) (a1 : ByteArray) : Option (Bool) := (dasdlaw20_awake.f k).bind fun t407 => (if t407 = true then ((dasdref20_IsNode.f k a0_0 a0_1 l0_2).bind fun t408 => (if t408 = true then (dasdlaw20_NodeLeads.j0 k a1 (decide ((a1.size : Int) > 100)) a0_0 a0_1 l0_2) else (dasdlaw20_NodeLeads.j0 k a1 true a0_0 a0_1 l0_2))) else (some false))
theorem dasdlaw20_NodeLeads.mono_l : ∀ k, (∀ y0 y1 y2 y3 y4, LeO (dasdlaw20_NodeLeads.j0 k y0 y1 y2 y3 y4) (dasdlaw20_NodeLeads.j0 (k + 1) y0 y1 y2 y3 y4))
  | 0 => fun _ _ _ _ _ r h => by simp [dasdlaw20_NodeLeads.j0] at h
  | k + 1 => by
    have ih0 := dasdlaw20_NodeLeads.mono_l k
    · intro y0 y1 y2 y3 y4
      unfold dasdlaw20_NodeLeads.j0
      repeat' first
      | (with_reducible exact ih0 _ _ _ _ _)
      | (with_reducible exact dasdlaw20_awake.mono _)
      | (with_reducible exact dasdref20_IsNode.mono _ _ _ _)
      | (with_reducible exact LeO.refl _)
      | (with_reducible exact LeO.none _)
      | (with_reducible refine LeO.ite ?_ ?_)
      | (with_reducible refine LeO.bind ?_ (fun _ => ?_))
      | exact ih0 _ _ _ _ _
      | exact dasdlaw20_awake.mono _
      | exact dasdref20_IsNode.mono _ _ _ _
      | exact LeO.none _
      | refine LeO.ite ?_ ?_
      | refine LeO.bind ?_ (fun _ => ?_)
theorem dasdlaw20_NodeLeads.mono : ∀ a0 a1 a2 a3 k, LeO (dasdlaw20_NodeLeads.f k a0 a1 a2 a3) (dasdlaw20_NodeLeads.f (k + 1) a0 a1 a2 a3) := by
  intro a0 a1 a2 a3 k
  have ih0 := dasdlaw20_NodeLeads.mono_l k
  unfold dasdlaw20_NodeLeads.f
  repeat' first
      | (with_reducible exact ih0 _ _ _ _ _)
      | (with_reducible exact dasdlaw20_awake.mono _)
      | (with_reducible exact dasdref20_IsNode.mono _ _ _ _)
      | (with_reducible exact LeO.refl _)
      | (with_reducible exact LeO.none _)
      | (with_reducible refine LeO.ite ?_ ?_)
      | (with_reducible refine LeO.bind ?_ (fun _ => ?_))
      | exact ih0 _ _ _ _ _
      | exact dasdlaw20_awake.mono _
      | exact dasdref20_IsNode.mono _ _ _ _
      | exact LeO.none _
      | refine LeO.ite ?_ ?_
      | refine LeO.bind ?_ (fun _ => ?_)
set_option maxHeartbeats 8000000 in
set_option maxRecDepth 100000 in
theorem dasdlaw20_NodeLeads.calls (k : Nat) (a0_0 : Int) (a0_1 : Int) (A0_2 : Option Addr) (c0_2 : Nat) (l0_2 : List (S32)) (a1 : ByteArray) (r : Bool) (w : World) (hr0_2 : Kd.C k32 w A0_2 l0_2.length l0_2) (hc0_2 : l0_2.length ≤ c0_2) (h : dasdlaw20_NodeLeads.f k a0_0 a0_1 l0_2 a1 = some r) :
    Calls Try.prog 6 #[.agg #[.int .i64 a0_0, .int .i64 a0_1, .slice A0_2 l0_2.length c0_2], .string a1] w fun e w' => e = .returned (.bool r) ∧ Below w.heap.size w w' := by
  have hu24 := Try.underlying24
  have HR0_2 := Aside0.mk hr0_2
  have HC0_2 := Aside0.mk hc0_2
  clear hr0_2 hc0_2
  have HB := Aside0.mk (Below.refl w.heap.size w)
  have H : ((dasdlaw20_awake.f k).bind fun t407 => (if t407 = true then ((dasdref20_IsNode.f k a0_0 a0_1 l0_2).bind fun t408 => (if t408 = true then (dasdlaw20_NodeLeads.j0 k a1 (decide ((a1.size : Int) > 100)) a0_0 a0_1 l0_2) else (dasdlaw20_NodeLeads.j0 k a1 true a0_0 a0_1 l0_2))) else (some false))) = some r := h
  clear h
  replace H := Option.bind_eq_some_iff.mp H
  obtain ⟨t407, A30, H⟩ := H
  replace H : (if t407 = true then ((dasdref20_IsNode.f k a0_0 a0_1 l0_2).bind fun t408 => (if t408 = true then (dasdlaw20_NodeLeads.j0 k a1 (decide ((a1.size : Int) > 100)) a0_0 a0_1 l0_2) else (dasdlaw20_NodeLeads.j0 k a1 true a0_0 a0_1 l0_2))) else (some false)) = some r := H
  have A3 := Aside0.mk A30
  clear A30
  by_cases c4 : t407 = true
  · subst c4
    have H1 : ((dasdref20_IsNode.f k a0_0 a0_1 l0_2).bind fun t408 => (if t408 = true then (dasdlaw20_NodeLeads.j0 k a1 (decide ((a1.size : Int) > 100)) a0_0 a0_1 l0_2) else (dasdlaw20_NodeLeads.j0 k a1 true a0_0 a0_1 l0_2))) = some r := by rw [if_pos rfl] at H; exact H
    clear H
    have H := H1
    clear H1
    have HC5 := Aside0.mk H
    clear H
    go_enter Try.func6, Try.ntmps6
    go_upto_region 3 with (first | ((with_reducible refine gate_dst (N := 2) rfl ?_); (try (refine gate_guard (by rfl) ?_; dsimp only)); refine box_event ?hg (N := 2) ?hd (cs := #[.int .i64 a0_0, .int .i64 a0_1, .slice A0_2 l0_2.length c0_2]) (t := 24) ?hr ?_; (case hd => rfl); (case hg => rfl); (case hr => first | (go_simp; done) | (go_simp; rfl)); intro gb406 hg w6 hbox hb; have n0_ := Aside0.mk (below_step (by repeat (first | (with_reducible first | exact HB.out | apply below_alloc | apply pw_below_drewN | apply below_drew1) | exact HB.out)) hb); have n1_ := Aside0.mk (hbox); have n2_ := Aside0.mk ((by rw [hg]; exact (below_size (by repeat (first | (with_reducible first | exact HB.out | apply below_alloc | apply pw_below_drewN | apply below_drew1) | exact HB.out))) : w.heap.size ≤ gb406)); have n3_ := Aside0.mk ((by rw [hg]; exact (below_size (by repeat (first | (with_reducible first | exact HB.out | apply below_alloc | apply pw_below_drewN | apply below_drew1) | exact HB.out))) : w.heap.size ≤ gb406)); clear HB; have HB := n0_; have BK406 := n1_; have GW406 := n2_; have GE406 := n3_; clear n0_ n1_ n2_ n3_; clear hb hbox hg) | ((with_reducible refine gate_callee (f := 10) rfl ?_); refine goesL_ (some 6) rfl rfl Try.func10 (by kernel_rfl) rfl #[] rfl (by (try simp only [List.map_toArray, List.map_cons, List.map_nil]); first | done | rfl | (simp only [List.length_drop, List.length_take]; rfl)) ?_; (with_reducible refine (dasdlaw20_awake.calls k  true _ A3.out).mono ?_); rintro e w7 ⟨rfl, hb⟩; refine ⟨_, rfl, ?_⟩; have n0_ := Aside0.mk (blk_below (g := gb406) (o := .cells #[.int .i64 a0_0, .int .i64 a0_1, .slice A0_2 l0_2.length c0_2] 24 (0, 0)) (by (with_reducible repeat (first | refine blk_drewN ?_ _ | refine blk_drew ?_ | refine blk_alloc ?_ _)); exact BK406.out) hb); have n1_ := Aside0.mk (below_step (by repeat (first | (with_reducible first | exact HB.out | apply below_alloc | apply pw_below_drewN | apply below_drew1 | refine below_set ?_ GE406.out) | exact HB.out)) hb); clear BK406; clear HB; have BK406 := n0_; have HB := n1_; clear n0_ n1_; (try clear hb); (try clear hb2); (try clear hk); (try clear hi)))
    (try simp only [Act.put, List.setIfInBounds_toArray, List.set_cons_zero, List.set_cons_succ])
    go_cut [15] (fun v15 wc => ∃ (kq : Nat) (x15_4 : Bool), v15 = .bool x15_4 ∧ Aside0 (dasdlaw20_NodeLeads.j0 kq a1 x15_4 a0_0 a0_1 l0_2 = some r) ∧ Aside0 (kq ≤ k) ∧ Aside0 (wc.heap[gb406]? = some (.cells #[.int .i64 a0_0, .int .i64 a0_1, (.slice A0_2 l0_2.length c0_2)] 24 (0, 0))) ∧ Aside0 (Below w.heap.size w wc))
    case first =>
      have H := HC5.out
      clear HC5
      replace H := Option.bind_eq_some_iff.mp H
      obtain ⟨t408, A80, H⟩ := H
      replace H : (if t408 = true then (dasdlaw20_NodeLeads.j0 k a1 (decide ((a1.size : Int) > 100)) a0_0 a0_1 l0_2) else (dasdlaw20_NodeLeads.j0 k a1 true a0_0 a0_1 l0_2)) = some r := H
      have A8 := Aside0.mk A80
      clear A80
      by_cases c9 : t408 = true
      · subst c9
        have H1 : (dasdlaw20_NodeLeads.j0 k a1 (decide ((a1.size : Int) > 100)) a0_0 a0_1 l0_2) = some r := by rw [if_pos rfl] at H; exact H
        clear H
        have H := H1
        clear H1
        have H' := Aside0.mk H
        clear H
        have hcz10_0 : w7.cell? ⟨gb406, 0, none⟩ = some (.int .i64 a0_0) := (blk_cell BK406.out 0).trans rfl
        have hcz10_1 : w7.cell? ⟨gb406, 1, none⟩ = some (.int .i64 a0_1) := (blk_cell BK406.out 1).trans rfl
        have hcz10_2 : w7.cell? ⟨gb406, 2, none⟩ = some (.slice A0_2 l0_2.length c0_2) := (blk_cell BK406.out 2).trans rfl
        have hfz10_0 := blk_frozen BK406.out 0
        have hfz10_1 := blk_frozen BK406.out 1
        have hfz10_2 := blk_frozen BK406.out 2
        go_wp2_with (first | ((with_reducible refine gate_callee (f := 11) rfl ?_); refine goesL_ (some 9) rfl rfl Try.func11 (by kernel_rfl) rfl #[.agg #[.int .i64 a0_0, .int .i64 a0_1, .slice A0_2 l0_2.length c0_2]] rfl (by (try simp only [List.map_toArray, List.map_cons, List.map_nil]); first | done | rfl | (simp only [List.length_drop, List.length_take]; rfl)) ?_; (with_reducible refine (dasdref20_IsNode.calls k a0_0 a0_1 _ _ l0_2 true _ ?side1 ?side2 A8.out).mono ?_); (case side1 => repeat (first | exact (Kd.C_below HR0_2.out HB.out) | (with_reducible refine Kd.C_alloc ?_ _) | (with_reducible refine Kd.C_drewN ?_ _) | (with_reducible refine Kd.C_drew ?_))); (case side2 => exact HC0_2.out); rintro e w11 ⟨rfl, hb⟩; refine ⟨_, rfl, ?_⟩; have n0_ := Aside0.mk (blk_below (g := gb406) (o := .cells #[.int .i64 a0_0, .int .i64 a0_1, .slice A0_2 l0_2.length c0_2] 24 (0, 0)) (by (with_reducible repeat (first | refine blk_drewN ?_ _ | refine blk_drew ?_ | refine blk_alloc ?_ _)); exact BK406.out) hb); have n1_ := Aside0.mk (below_step (by repeat (first | (with_reducible first | exact HB.out | apply below_alloc | apply pw_below_drewN | apply below_drew1 | refine below_set ?_ GE406.out) | exact HB.out)) hb); clear BK406; clear HB; have BK406 := n0_; have HB := n1_; clear n0_ n1_; (try clear hb); (try clear hb2); (try clear hk); (try clear hi)))
        go_meet
        case rel => exact ⟨_, (decide ((a1.size : Int) > 100)), (by first | rfl | (simp; done) | (simp [*]; done)), H', ⟨by first | omega | exact Nat.le_refl _⟩, ⟨by (with_reducible repeat (first | refine blk_drewN ?_ _ | refine blk_drew ?_ | refine blk_alloc ?_ _)); exact BK406.out⟩, ⟨by repeat (first | (with_reducible first | exact HB.out | apply below_alloc | apply pw_below_drewN | apply below_drew1 | refine below_set ?_ GE406.out) | exact HB.out)⟩⟩
      · replace c9 := Bool.eq_false_iff.mpr c9
        subst c9
        have H1 : (dasdlaw20_NodeLeads.j0 k a1 true a0_0 a0_1 l0_2) = some r := by rw [if_neg (show ¬ (false = true) by decide)] at H; exact H
        clear H
        have H := H1
        clear H1
        have H' := Aside0.mk H
        clear H
        have hcz12_0 : w7.cell? ⟨gb406, 0, none⟩ = some (.int .i64 a0_0) := (blk_cell BK406.out 0).trans rfl
        have hcz12_1 : w7.cell? ⟨gb406, 1, none⟩ = some (.int .i64 a0_1) := (blk_cell BK406.out 1).trans rfl
        have hcz12_2 : w7.cell? ⟨gb406, 2, none⟩ = some (.slice A0_2 l0_2.length c0_2) := (blk_cell BK406.out 2).trans rfl
        have hfz12_0 := blk_frozen BK406.out 0
        have hfz12_1 := blk_frozen BK406.out 1
        have hfz12_2 := blk_frozen BK406.out 2
        go_wp2_with (first | ((with_reducible refine gate_callee (f := 11) rfl ?_); refine goesL_ (some 9) rfl rfl Try.func11 (by kernel_rfl) rfl #[.agg #[.int .i64 a0_0, .int .i64 a0_1, .slice A0_2 l0_2.length c0_2]] rfl (by (try simp only [List.map_toArray, List.map_cons, List.map_nil]); first | done | rfl | (simp only [List.length_drop, List.length_take]; rfl)) ?_; (with_reducible refine (dasdref20_IsNode.calls k a0_0 a0_1 _ _ l0_2 false _ ?side1 ?side2 A8.out).mono ?_); (case side1 => repeat (first | exact (Kd.C_below HR0_2.out HB.out) | (with_reducible refine Kd.C_alloc ?_ _) | (with_reducible refine Kd.C_drewN ?_ _) | (with_reducible refine Kd.C_drew ?_))); (case side2 => exact HC0_2.out); rintro e w13 ⟨rfl, hb⟩; refine ⟨_, rfl, ?_⟩; have n0_ := Aside0.mk (blk_below (g := gb406) (o := .cells #[.int .i64 a0_0, .int .i64 a0_1, .slice A0_2 l0_2.length c0_2] 24 (0, 0)) (by (with_reducible repeat (first | refine blk_drewN ?_ _ | refine blk_drew ?_ | refine blk_alloc ?_ _)); exact BK406.out) hb); have n1_ := Aside0.mk (below_step (by repeat (first | (with_reducible first | exact HB.out | apply below_alloc | apply pw_below_drewN | apply below_drew1 | refine below_set ?_ GE406.out) | exact HB.out)) hb); clear BK406; clear HB; have BK406 := n0_; have HB := n1_; clear n0_ n1_; (try clear hb); (try clear hb2); (try clear hk); (try clear hi)))
        go_meet
        case rel => exact ⟨_, (true), (by first | rfl | (simp; done) | (simp [*]; done)), H', ⟨by first | omega | exact Nat.le_refl _⟩, ⟨by (with_reducible repeat (first | refine blk_drewN ?_ _ | refine blk_drew ?_ | refine blk_alloc ?_ _)); exact BK406.out⟩, ⟨by repeat (first | (with_reducible first | exact HB.out | apply below_alloc | apply pw_below_drewN | apply below_drew1 | refine below_set ?_ GE406.out) | exact HB.out)⟩⟩
    case rest =>
      clear HC5
      try clear c1
      try clear p2
      try clear c4
      try clear c6
      try clear c9
      try clear c10
      try clear c11
      try clear hcz10_0
      try clear hcz10_1
      try clear hcz10_2
      try clear hcz12_0
      try clear hcz12_1
      try clear hcz12_2
      try clear hfz10_0
      try clear hfz10_1
      try clear hfz10_2
      try clear hfz12_0
      try clear hfz12_1
      try clear hfz12_2
      obtain ⟨kq, x15_4, rfl, HA, HJ4, BK406, HB⟩ := hcut
      cases kq with
      | zero => exact absurd HA.out (by simp [dasdlaw20_NodeLeads.j0])
      | succ kj4 =>
        have H := HA.out
        clear HA
        simp only [dasdlaw20_NodeLeads.j0] at H
        by_cases c14 : x15_4 = true
        · subst c14
          have H1 : (some true) = some r := by rw [if_pos rfl] at H; exact H
          clear H
          have H := H1
          clear H1
          obtain rfl := Option.some.inj H
          go_wp2
          go_ret
          exact ⟨by first | rfl | (simp [errW_none, errW_some] <;> rfl) | (simp [*, errW_none, errW_some] <;> rfl), by repeat (first | (with_reducible first | exact HB.out | apply below_alloc | apply pw_below_drewN | apply below_drew1 | refine below_set ?_ GE406.out) | exact HB.out)⟩
        · replace c14 := Bool.eq_false_iff.mpr c14
          subst c14
          have H1 : ((node_Find.f a0_0 a0_1 l0_2 a1).bind fun t409 => (if t409 < 0 then (some false) else (if t409 ≥ (l0_2.length : Int) then (some false) else (if t409 = (wrap64 ((l0_2.length : Int) - 1)) then (if t409 = 0 then (some true) else (if 0 ≤ (wrap64 (t409 - 1)) then (if (wrap64 (t409 - 1)) < (l0_2.length : Int) then (some (!(Op.bytesLess a1.toList (((rd_T32 l0_2 (wrap64 (t409 - 1))).f0).toList)))) else (none)) else (none))) else (if 0 ≤ t409 then (if t409 < (l0_2.length : Int) then (if (Op.bytesLess a1.toList (((rd_T32 l0_2 t409).f0).toList)) = true then (if t409 = 0 then (some true) else (if 0 ≤ (wrap64 (t409 - 1)) then (if (wrap64 (t409 - 1)) < (l0_2.length : Int) then (some (!(Op.bytesLess a1.toList (((rd_T32 l0_2 (wrap64 (t409 - 1))).f0).toList)))) else (none)) else (none))) else (some false)) else (none)) else (none)))))) = some r := by rw [if_neg (show ¬ (false = true) by decide)] at H; exact H
          clear H
          have H := H1
          clear H1
          replace H := Option.bind_eq_some_iff.mp H
          obtain ⟨t409, A150, H⟩ := H
          replace H : (if t409 < 0 then (some false) else (if t409 ≥ (l0_2.length : Int) then (some false) else (if t409 = (wrap64 ((l0_2.length : Int) - 1)) then (if t409 = 0 then (some true) else (if 0 ≤ (wrap64 (t409 - 1)) then (if (wrap64 (t409 - 1)) < (l0_2.length : Int) then (some (!(Op.bytesLess a1.toList (((rd_T32 l0_2 (wrap64 (t409 - 1))).f0).toList)))) else (none)) else (none))) else (if 0 ≤ t409 then (if t409 < (l0_2.length : Int) then (if (Op.bytesLess a1.toList (((rd_T32 l0_2 t409).f0).toList)) = true then (if t409 = 0 then (some true) else (if 0 ≤ (wrap64 (t409 - 1)) then (if (wrap64 (t409 - 1)) < (l0_2.length : Int) then (some (!(Op.bytesLess a1.toList (((rd_T32 l0_2 (wrap64 (t409 - 1))).f0).toList)))) else (none)) else (none))) else (some false)) else (none)) else (none))))) = some r := H
          have A15 := Aside0.mk A150
          clear A150
          by_cases c16 : t409 < 0
          · rw [if_pos c16] at H
            have c16b0 : decide (t409 < 0) = true := decide_eq_true c16
            clear c16
            obtain rfl := Option.some.inj H
            have hcz17_0 : wc.cell? ⟨gb406, 0, none⟩ = some (.int .i64 a0_0) := (blk_cell BK406.out 0).trans rfl
            have hcz17_1 : wc.cell? ⟨gb406, 1, none⟩ = some (.int .i64 a0_1) := (blk_cell BK406.out 1).trans rfl
            have hcz17_2 : wc.cell? ⟨gb406, 2, none⟩ = some (.slice A0_2 l0_2.length c0_2) := (blk_cell BK406.out 2).trans rfl
            have hfz17_0 := blk_frozen BK406.out 0
            have hfz17_1 := blk_frozen BK406.out 1
            have hfz17_2 := blk_frozen BK406.out 2
            go_wp2_with (first | ((with_reducible refine gate_callee (f := 12) rfl ?_); refine goesL_ (some 18) rfl rfl Try.func12 (by kernel_rfl) rfl #[.agg #[.int .i64 a0_0, .int .i64 a0_1, .slice A0_2 l0_2.length c0_2], .string a1] rfl (by (try simp only [List.map_toArray, List.map_cons, List.map_nil]); first | done | rfl | (simp only [List.length_drop, List.length_take]; rfl)) ?_; (with_reducible refine (node_Find.calls a0_0 a0_1 _ _ l0_2 a1 t409 _ ?side1 ?side2 A15.out).mono ?_); (case side1 => repeat (first | exact (Kd.C_below HR0_2.out HB.out) | (with_reducible refine Kd.C_alloc ?_ _) | (with_reducible refine Kd.C_drewN ?_ _) | (with_reducible refine Kd.C_drew ?_))); (case side2 => exact HC0_2.out); rintro e w18 ⟨rfl, hb⟩; refine ⟨_, rfl, ?_⟩; have n0_ := Aside0.mk (blk_below (g := gb406) (o := .cells #[.int .i64 a0_0, .int .i64 a0_1, .slice A0_2 l0_2.length c0_2] 24 (0, 0)) (by (with_reducible repeat (first | refine blk_drewN ?_ _ | refine blk_drew ?_ | refine blk_alloc ?_ _)); exact BK406.out) hb); have n1_ := Aside0.mk (below_step (by repeat (first | (with_reducible first | exact HB.out | apply below_alloc | apply pw_below_drewN | apply below_drew1 | refine below_set ?_ GE406.out) | exact HB.out)) hb); clear BK406; clear HB; have BK406 := n0_; have HB := n1_; clear n0_ n1_; (try clear hb); (try clear hb2); (try clear hk); (try clear hi)))
            go_ret
            exact ⟨by first | rfl | (simp [errW_none, errW_some] <;> rfl) | (simp [*, errW_none, errW_some] <;> rfl), by repeat (first | (with_reducible first | exact HB.out | apply below_alloc | apply pw_below_drewN | apply below_drew1 | refine below_set ?_ GE406.out) | exact HB.out)⟩
          · rw [if_neg c16] at H
            have c16b0 : decide (t409 < 0) = false := decide_eq_false c16
            clear c16
            by_cases c19 : t409 ≥ (l0_2.length : Int)
            · rw [if_pos c19] at H
              have c19b0 : decide ((l0_2.length : Int) ≤ t409) = true := decide_eq_true c19
              clear c19
              obtain rfl := Option.some.inj H
              have hcz20_0 : wc.cell? ⟨gb406, 0, none⟩ = some (.int .i64 a0_0) := (blk_cell BK406.out 0).trans rfl
              have hcz20_1 : wc.cell? ⟨gb406, 1, none⟩ = some (.int .i64 a0_1) := (blk_cell BK406.out 1).trans rfl
              have hcz20_2 : wc.cell? ⟨gb406, 2, none⟩ = some (.slice A0_2 l0_2.length c0_2) := (blk_cell BK406.out 2).trans rfl
              have hfz20_0 := blk_frozen BK406.out 0
              have hfz20_1 := blk_frozen BK406.out 1
              have hfz20_2 := blk_frozen BK406.out 2
              go_wp2_with (first | ((with_reducible refine gate_callee (f := 12) rfl ?_); refine goesL_ (some 18) rfl rfl Try.func12 (by kernel_rfl) rfl #[.agg #[.int .i64 a0_0, .int .i64 a0_1, .slice A0_2 l0_2.length c0_2], .string a1] rfl (by (try simp only [List.map_toArray, List.map_cons, List.map_nil]); first | done | rfl | (simp only [List.length_drop, List.length_take]; rfl)) ?_; (with_reducible refine (node_Find.calls a0_0 a0_1 _ _ l0_2 a1 t409 _ ?side1 ?side2 A15.out).mono ?_); (case side1 => repeat (first | exact (Kd.C_below HR0_2.out HB.out) | (with_reducible refine Kd.C_alloc ?_ _) | (with_reducible refine Kd.C_drewN ?_ _) | (with_reducible refine Kd.C_drew ?_))); (case side2 => exact HC0_2.out); rintro e w21 ⟨rfl, hb⟩; refine ⟨_, rfl, ?_⟩; have n0_ := Aside0.mk (blk_below (g := gb406) (o := .cells #[.int .i64 a0_0, .int .i64 a0_1, .slice A0_2 l0_2.length c0_2] 24 (0, 0)) (by (with_reducible repeat (first | refine blk_drewN ?_ _ | refine blk_drew ?_ | refine blk_alloc ?_ _)); exact BK406.out) hb); have n1_ := Aside0.mk (below_step (by repeat (first | (with_reducible first | exact HB.out | apply below_alloc | apply pw_below_drewN | apply below_drew1 | refine below_set ?_ GE406.out) | exact HB.out)) hb); clear BK406; clear HB; have BK406 := n0_; have HB := n1_; clear n0_ n1_; (try clear hb); (try clear hb2); (try clear hk); (try clear hi); have hcz22_0 : w21.cell? ⟨gb406, 0, none⟩ = some (.int .i64 a0_0) := (blk_cell BK406.out 0).trans rfl; have hcz22_1 : w21.cell? ⟨gb406, 1, none⟩ = some (.int .i64 a0_1) := (blk_cell BK406.out 1).trans rfl; have hcz22_2 : w21.cell? ⟨gb406, 2, none⟩ = some (.slice A0_2 l0_2.length c0_2) := (blk_cell BK406.out 2).trans rfl; have hfz22_0 := blk_frozen BK406.out 0; have hfz22_1 := blk_frozen BK406.out 1; have hfz22_2 := blk_frozen BK406.out 2))
              go_ret
              exact ⟨by first | rfl | (simp [errW_none, errW_some] <;> rfl) | (simp [*, errW_none, errW_some] <;> rfl), by repeat (first | (with_reducible first | exact HB.out | apply below_alloc | apply pw_below_drewN | apply below_drew1 | refine below_set ?_ GE406.out) | exact HB.out)⟩
            · rw [if_neg c19] at H
              have c19b0 : decide ((l0_2.length : Int) ≤ t409) = false := decide_eq_false c19
              clear c19
              by_cases c23 : t409 = (wrap64 ((l0_2.length : Int) - 1))
              · rw [if_pos c23] at H
                have c23b0 : (t409 == (wrap64 ((l0_2.length : Int) - 1))) = true := beq_iff_eq.mpr c23
                have c23b1 : (t409 != (wrap64 ((l0_2.length : Int) - 1))) = false := bne_eq_false_iff_eq.mpr c23
                clear c23
                by_cases c24 : t409 = 0
                · rw [if_pos c24] at H
                  have c24b0 : (t409 == 0) = true := beq_iff_eq.mpr c24
                  have c24b1 : (t409 != 0) = false := bne_eq_false_iff_eq.mpr c24
                  clear c24
                  obtain rfl := Option.some.inj H
                  have hcz25_0 : wc.cell? ⟨gb406, 0, none⟩ = some (.int .i64 a0_0) := (blk_cell BK406.out 0).trans rfl
                  have hcz25_1 : wc.cell? ⟨gb406, 1, none⟩ = some (.int .i64 a0_1) := (blk_cell BK406.out 1).trans rfl
                  have hcz25_2 : wc.cell? ⟨gb406, 2, none⟩ = some (.slice A0_2 l0_2.length c0_2) := (blk_cell BK406.out 2).trans rfl
                  have hfz25_0 := blk_frozen BK406.out 0
                  have hfz25_1 := blk_frozen BK406.out 1
                  have hfz25_2 := blk_frozen BK406.out 2
                  go_wp2_with (first | ((with_reducible refine gate_callee (f := 12) rfl ?_); refine goesL_ (some 18) rfl rfl Try.func12 (by kernel_rfl) rfl #[.agg #[.int .i64 a0_0, .int .i64 a0_1, .slice A0_2 l0_2.length c0_2], .string a1] rfl (by (try simp only [List.map_toArray, List.map_cons, List.map_nil]); first | done | rfl | (simp only [List.length_drop, List.length_take]; rfl)) ?_; (with_reducible refine (node_Find.calls a0_0 a0_1 _ _ l0_2 a1 t409 _ ?side1 ?side2 A15.out).mono ?_); (case side1 => repeat (first | exact (Kd.C_below HR0_2.out HB.out) | (with_reducible refine Kd.C_alloc ?_ _) | (with_reducible refine Kd.C_drewN ?_ _) | (with_reducible refine Kd.C_drew ?_))); (case side2 => exact HC0_2.out); rintro e w26 ⟨rfl, hb⟩; refine ⟨_, rfl, ?_⟩; have n0_ := Aside0.mk (blk_below (g := gb406) (o := .cells #[.int .i64 a0_0, .int .i64 a0_1, .slice A0_2 l0_2.length c0_2] 24 (0, 0)) (by (with_reducible repeat (first | refine blk_drewN ?_ _ | refine blk_drew ?_ | refine blk_alloc ?_ _)); exact BK406.out) hb); have n1_ := Aside0.mk (below_step (by repeat (first | (with_reducible first | exact HB.out | apply below_alloc | apply pw_below_drewN | apply below_drew1 | refine below_set ?_ GE406.out) | exact HB.out)) hb); clear BK406; clear HB; have BK406 := n0_; have HB := n1_; clear n0_ n1_; (try clear hb); (try clear hb2); (try clear hk); (try clear hi); have hcz27_0 : w26.cell? ⟨gb406, 0, none⟩ = some (.int .i64 a0_0) := (blk_cell BK406.out 0).trans rfl; have hcz27_1 : w26.cell? ⟨gb406, 1, none⟩ = some (.int .i64 a0_1) := (blk_cell BK406.out 1).trans rfl; have hcz27_2 : w26.cell? ⟨gb406, 2, none⟩ = some (.slice A0_2 l0_2.length c0_2) := (blk_cell BK406.out 2).trans rfl; have hfz27_0 := blk_frozen BK406.out 0; have hfz27_1 := blk_frozen BK406.out 1; have hfz27_2 := blk_frozen BK406.out 2))
                  go_ret
                  exact ⟨by first | rfl | (simp [errW_none, errW_some] <;> rfl) | (simp [*, errW_none, errW_some] <;> rfl), by repeat (first | (with_reducible first | exact HB.out | apply below_alloc | apply pw_below_drewN | apply below_drew1 | refine below_set ?_ GE406.out) | exact HB.out)⟩
                · rw [if_neg c24] at H
                  have c24b0 : (t409 == 0) = false := beq_eq_false_iff_ne.mpr c24
                  have c24b1 : (t409 != 0) = true := bne_iff_ne.mpr c24
                  obtain ⟨ji28, hji28⟩ : ∃ j_ : Int, (wrap64 (t409 - 1)) = j_ := ⟨_, rfl⟩
                  replace H : (if 0 ≤ (ji28) then (if (ji28) < (l0_2.length : Int) then (some (!(Op.bytesLess a1.toList (((rd_T32 l0_2 (ji28)).f0).toList)))) else (none)) else (none)) = some r := by first | (rw [hji28] at H; exact H) | (simp only [hji28] at H ⊢; exact H)
                  (try rw [hji28] at A15)
                  have hji28w : (IntKind.i64.wrap (t409 - 1)) = ji28 := (i64_w _).trans hji28
                  by_cases c29 : 0 ≤ (ji28)
                  · rw [if_pos c29] at H
                    have c29b0 : decide (0 ≤ (ji28)) = true := decide_eq_true c29
                    clear c29
                    by_cases c30 : (ji28) < (l0_2.length : Int)
                    · rw [if_pos c30] at H
                      have c30b0 : decide ((ji28) < (l0_2.length : Int)) = true := decide_eq_true c30
                      clear c30
                      obtain rfl := Option.some.inj H
                      have hcz31_0 : wc.cell? ⟨gb406, 0, none⟩ = some (.int .i64 a0_0) := (blk_cell BK406.out 0).trans rfl
                      have hcz31_1 : wc.cell? ⟨gb406, 1, none⟩ = some (.int .i64 a0_1) := (blk_cell BK406.out 1).trans rfl
                      have hcz31_2 : wc.cell? ⟨gb406, 2, none⟩ = some (.slice A0_2 l0_2.length c0_2) := (blk_cell BK406.out 2).trans rfl
                      have hfz31_0 := blk_frozen BK406.out 0
                      have hfz31_1 := blk_frozen BK406.out 1
                      have hfz31_2 := blk_frozen BK406.out 2
                      go_wp2_with (first | ((with_reducible refine gate_callee (f := 12) rfl ?_); refine goesL_ (some 18) rfl rfl Try.func12 (by kernel_rfl) rfl #[.agg #[.int .i64 a0_0, .int .i64 a0_1, .slice A0_2 l0_2.length c0_2], .string a1] rfl (by (try simp only [List.map_toArray, List.map_cons, List.map_nil]); first | done | rfl | (simp only [List.length_drop, List.length_take]; rfl)) ?_; (with_reducible refine (node_Find.calls a0_0 a0_1 _ _ l0_2 a1 t409 _ ?side1 ?side2 A15.out).mono ?_); (case side1 => repeat (first | exact (Kd.C_below HR0_2.out HB.out) | (with_reducible refine Kd.C_alloc ?_ _) | (with_reducible refine Kd.C_drewN ?_ _) | (with_reducible refine Kd.C_drew ?_))); (case side2 => exact HC0_2.out); rintro e w32 ⟨rfl, hb⟩; refine ⟨_, rfl, ?_⟩; have n0_ := Aside0.mk (blk_below (g := gb406) (o := .cells #[.int .i64 a0_0, .int .i64 a0_1, .slice A0_2 l0_2.length c0_2] 24 (0, 0)) (by (with_reducible repeat (first | refine blk_drewN ?_ _ | refine blk_drew ?_ | refine blk_alloc ?_ _)); exact BK406.out) hb); have n1_ := Aside0.mk (below_step (by repeat (first | (with_reducible first | exact HB.out | apply below_alloc | apply pw_below_drewN | apply below_drew1 | refine below_set ?_ GE406.out) | exact HB.out)) hb); clear BK406; clear HB; have BK406 := n0_; have HB := n1_; clear n0_ n1_; (try clear hb); (try clear hb2); (try clear hk); (try clear hi); have hcz33_0 : w32.cell? ⟨gb406, 0, none⟩ = some (.int .i64 a0_0) := (blk_cell BK406.out 0).trans rfl; have hcz33_1 : w32.cell? ⟨gb406, 1, none⟩ = some (.int .i64 a0_1) := (blk_cell BK406.out 1).trans rfl; have hcz33_2 : w32.cell? ⟨gb406, 2, none⟩ = some (.slice A0_2 l0_2.length c0_2) := (blk_cell BK406.out 2).trans rfl; have hfz33_0 := blk_frozen BK406.out 0; have hfz33_1 := blk_frozen BK406.out 1; have hfz33_2 := blk_frozen BK406.out 2; have p410 : 0 ≤ ((ji28) : Int) := of_decide_eq_true (by first | (with_reducible assumption) | assumption); have q410 : (ji28) < (l0_2.length : Int) := of_decide_eq_true (by first | (with_reducible assumption) | assumption); obtain ⟨ad410, e410, hx410_0, hx410_1⟩ := at_T32 HR0_2.out (ji28) p410 q410; cases e410; replace hx410_0 := (HB.out.cell (World.block_lt_of_cell? w _ hx410_0)).trans hx410_0; replace hx410_1 := (HB.out.cell (World.block_lt_of_cell? w _ hx410_1)).trans hx410_1; replace p410 := eq_true p410; replace q410 := eq_true q410))
                      go_ret
                      exact ⟨by first | rfl | (simp [errW_none, errW_some] <;> rfl) | (simp only [← hji28]; first | rfl | (simp [errW_none, errW_some] <;> rfl)) | (simp [*, errW_none, errW_some] <;> rfl), by repeat (first | (with_reducible first | exact HB.out | apply below_alloc | apply pw_below_drewN | apply below_drew1 | refine below_set ?_ GE406.out) | exact HB.out)⟩
                    · rw [if_neg c30] at H
                      exact absurd H (by simp)
                  · rw [if_neg c29] at H
                    exact absurd H (by simp)
              · rw [if_neg c23] at H
                have c23b0 : (t409 == (wrap64 ((l0_2.length : Int) - 1))) = false := beq_eq_false_iff_ne.mpr c23
                have c23b1 : (t409 != (wrap64 ((l0_2.length : Int) - 1))) = true := bne_iff_ne.mpr c23
                by_cases c34 : 0 ≤ t409
                · rw [if_pos c34] at H
                  have c34b0 : decide (0 ≤ t409) = true := decide_eq_true c34
                  clear c34
                  by_cases c35 : t409 < (l0_2.length : Int)
                  · rw [if_pos c35] at H
                    have c35b0 : decide (t409 < (l0_2.length : Int)) = true := decide_eq_true c35
                    clear c35
                    by_cases c36 : (Op.bytesLess a1.toList (((rd_T32 l0_2 t409).f0).toList)) = true
                    · rw [if_pos c36] at H
                      have c36b0 : (Op.bytesLess a1.toList (((rd_T32 l0_2 t409).f0).toList)) = true := c36
                      clear c36
                      by_cases c37 : t409 = 0
                      · rw [if_pos c37] at H
                        have c37b0 : (t409 == 0) = true := beq_iff_eq.mpr c37
                        have c37b1 : (t409 != 0) = false := bne_eq_false_iff_eq.mpr c37
                        clear c37
                        obtain rfl := Option.some.inj H
                        have hcz38_0 : wc.cell? ⟨gb406, 0, none⟩ = some (.int .i64 a0_0) := (blk_cell BK406.out 0).trans rfl
                        have hcz38_1 : wc.cell? ⟨gb406, 1, none⟩ = some (.int .i64 a0_1) := (blk_cell BK406.out 1).trans rfl
                        have hcz38_2 : wc.cell? ⟨gb406, 2, none⟩ = some (.slice A0_2 l0_2.length c0_2) := (blk_cell BK406.out 2).trans rfl
                        have hfz38_0 := blk_frozen BK406.out 0
                        have hfz38_1 := blk_frozen BK406.out 1
                        have hfz38_2 := blk_frozen BK406.out 2
                        go_wp2_with (first | ((with_reducible refine gate_callee (f := 12) rfl ?_); refine goesL_ (some 18) rfl rfl Try.func12 (by kernel_rfl) rfl #[.agg #[.int .i64 a0_0, .int .i64 a0_1, .slice A0_2 l0_2.length c0_2], .string a1] rfl (by (try simp only [List.map_toArray, List.map_cons, List.map_nil]); first | done | rfl | (simp only [List.length_drop, List.length_take]; rfl)) ?_; (with_reducible refine (node_Find.calls a0_0 a0_1 _ _ l0_2 a1 t409 _ ?side1 ?side2 A15.out).mono ?_); (case side1 => repeat (first | exact (Kd.C_below HR0_2.out HB.out) | (with_reducible refine Kd.C_alloc ?_ _) | (with_reducible refine Kd.C_drewN ?_ _) | (with_reducible refine Kd.C_drew ?_))); (case side2 => exact HC0_2.out); rintro e w39 ⟨rfl, hb⟩; refine ⟨_, rfl, ?_⟩; have n0_ := Aside0.mk (blk_below (g := gb406) (o := .cells #[.int .i64 a0_0, .int .i64 a0_1, .slice A0_2 l0_2.length c0_2] 24 (0, 0)) (by (with_reducible repeat (first | refine blk_drewN ?_ _ | refine blk_drew ?_ | refine blk_alloc ?_ _)); exact BK406.out) hb); have n1_ := Aside0.mk (below_step (by repeat (first | (with_reducible first | exact HB.out | apply below_alloc | apply pw_below_drewN | apply below_drew1 | refine below_set ?_ GE406.out) | exact HB.out)) hb); clear BK406; clear HB; have BK406 := n0_; have HB := n1_; clear n0_ n1_; (try clear hb); (try clear hb2); (try clear hk); (try clear hi); have hcz40_0 : w39.cell? ⟨gb406, 0, none⟩ = some (.int .i64 a0_0) := (blk_cell BK406.out 0).trans rfl; have hcz40_1 : w39.cell? ⟨gb406, 1, none⟩ = some (.int .i64 a0_1) := (blk_cell BK406.out 1).trans rfl; have hcz40_2 : w39.cell? ⟨gb406, 2, none⟩ = some (.slice A0_2 l0_2.length c0_2) := (blk_cell BK406.out 2).trans rfl; have hfz40_0 := blk_frozen BK406.out 0; have hfz40_1 := blk_frozen BK406.out 1; have hfz40_2 := blk_frozen BK406.out 2; have p411 : 0 ≤ (t409 : Int) := of_decide_eq_true (by first | (with_reducible assumption) | assumption); have q411 : t409 < (l0_2.length : Int) := of_decide_eq_true (by first | (with_reducible assumption) | assumption); obtain ⟨ad411, e411, hx411_0, hx411_1⟩ := at_T32 HR0_2.out t409 p411 q411; cases e411; replace hx411_0 := (HB.out.cell (World.block_lt_of_cell? w _ hx411_0)).trans hx411_0; replace hx411_1 := (HB.out.cell (World.block_lt_of_cell? w _ hx411_1)).trans hx411_1; replace p411 := eq_true p411; replace q411 := eq_true q411))
                        go_ret
                        exact ⟨by first | rfl | (simp [errW_none, errW_some] <;> rfl) | (simp [*, errW_none, errW_some] <;> rfl), by repeat (first | (with_reducible first | exact HB.out | apply below_alloc | apply pw_below_drewN | apply below_drew1 | refine below_set ?_ GE406.out) | exact HB.out)⟩
                      · rw [if_neg c37] at H
                        have c37b0 : (t409 == 0) = false := beq_eq_false_iff_ne.mpr c37
                        have c37b1 : (t409 != 0) = true := bne_iff_ne.mpr c37
                        obtain ⟨ji41, hji41⟩ : ∃ j_ : Int, (wrap64 (t409 - 1)) = j_ := ⟨_, rfl⟩
                        replace H : (if 0 ≤ (ji41) then (if (ji41) < (l0_2.length : Int) then (some (!(Op.bytesLess a1.toList (((rd_T32 l0_2 (ji41)).f0).toList)))) else (none)) else (none)) = some r := by first | (rw [hji41] at H; exact H) | (simp only [hji41] at H ⊢; exact H)
                        (try rw [hji41] at A15)
                        have hji41w : (IntKind.i64.wrap (t409 - 1)) = ji41 := (i64_w _).trans hji41
                        by_cases c42 : 0 ≤ (ji41)
                        · rw [if_pos c42] at H
                          have c42b0 : decide (0 ≤ (ji41)) = true := decide_eq_true c42
                          clear c42
                          by_cases c43 : (ji41) < (l0_2.length : Int)
                          · rw [if_pos c43] at H
                            have c43b0 : decide ((ji41) < (l0_2.length : Int)) = true := decide_eq_true c43
                            clear c43
                            obtain rfl := Option.some.inj H
                            have hcz44_0 : wc.cell? ⟨gb406, 0, none⟩ = some (.int .i64 a0_0) := (blk_cell BK406.out 0).trans rfl
                            have hcz44_1 : wc.cell? ⟨gb406, 1, none⟩ = some (.int .i64 a0_1) := (blk_cell BK406.out 1).trans rfl
                            have hcz44_2 : wc.cell? ⟨gb406, 2, none⟩ = some (.slice A0_2 l0_2.length c0_2) := (blk_cell BK406.out 2).trans rfl
                            have hfz44_0 := blk_frozen BK406.out 0
                            have hfz44_1 := blk_frozen BK406.out 1
                            have hfz44_2 := blk_frozen BK406.out 2
                            go_wp2_with (first | ((with_reducible refine gate_callee (f := 12) rfl ?_); refine goesL_ (some 18) rfl rfl Try.func12 (by kernel_rfl) rfl #[.agg #[.int .i64 a0_0, .int .i64 a0_1, .slice A0_2 l0_2.length c0_2], .string a1] rfl (by (try simp only [List.map_toArray, List.map_cons, List.map_nil]); first | done | rfl | (simp only [List.length_drop, List.length_take]; rfl)) ?_; (with_reducible refine (node_Find.calls a0_0 a0_1 _ _ l0_2 a1 t409 _ ?side1 ?side2 A15.out).mono ?_); (case side1 => repeat (first | exact (Kd.C_below HR0_2.out HB.out) | (with_reducible refine Kd.C_alloc ?_ _) | (with_reducible refine Kd.C_drewN ?_ _) | (with_reducible refine Kd.C_drew ?_))); (case side2 => exact HC0_2.out); rintro e w45 ⟨rfl, hb⟩; refine ⟨_, rfl, ?_⟩; have n0_ := Aside0.mk (blk_below (g := gb406) (o := .cells #[.int .i64 a0_0, .int .i64 a0_1, .slice A0_2 l0_2.length c0_2] 24 (0, 0)) (by (with_reducible repeat (first | refine blk_drewN ?_ _ | refine blk_drew ?_ | refine blk_alloc ?_ _)); exact BK406.out) hb); have n1_ := Aside0.mk (below_step (by repeat (first | (with_reducible first | exact HB.out | apply below_alloc | apply pw_below_drewN | apply below_drew1 | refine below_set ?_ GE406.out) | exact HB.out)) hb); clear BK406; clear HB; have BK406 := n0_; have HB := n1_; clear n0_ n1_; (try clear hb); (try clear hb2); (try clear hk); (try clear hi); have hcz46_0 : w45.cell? ⟨gb406, 0, none⟩ = some (.int .i64 a0_0) := (blk_cell BK406.out 0).trans rfl; have hcz46_1 : w45.cell? ⟨gb406, 1, none⟩ = some (.int .i64 a0_1) := (blk_cell BK406.out 1).trans rfl; have hcz46_2 : w45.cell? ⟨gb406, 2, none⟩ = some (.slice A0_2 l0_2.length c0_2) := (blk_cell BK406.out 2).trans rfl; have hfz46_0 := blk_frozen BK406.out 0; have hfz46_1 := blk_frozen BK406.out 1; have hfz46_2 := blk_frozen BK406.out 2; have p411 : 0 ≤ (t409 : Int) := of_decide_eq_true (by first | (with_reducible assumption) | assumption); have q411 : t409 < (l0_2.length : Int) := of_decide_eq_true (by first | (with_reducible assumption) | assumption); obtain ⟨ad411, e411, hx411_0, hx411_1⟩ := at_T32 HR0_2.out t409 p411 q411; cases e411; replace hx411_0 := (HB.out.cell (World.block_lt_of_cell? w _ hx411_0)).trans hx411_0; replace hx411_1 := (HB.out.cell (World.block_lt_of_cell? w _ hx411_1)).trans hx411_1; replace p411 := eq_true p411; replace q411 := eq_true q411; have p412 : 0 ≤ ((ji41) : Int) := of_decide_eq_true (by first | (with_reducible assumption) | assumption); have q412 : (ji41) < (l0_2.length : Int) := of_decide_eq_true (by first | (with_reducible assumption) | assumption); obtain ⟨ad412, e412, hx412_0, hx412_1⟩ := at_T32 HR0_2.out (ji41) p412 q412; obtain rfl : ad411 = ad412 := (by injection e412); replace hx412_0 := (HB.out.cell (World.block_lt_of_cell? w _ hx412_0)).trans hx412_0; replace hx412_1 := (HB.out.cell (World.block_lt_of_cell? w _ hx412_1)).trans hx412_1; replace p412 := eq_true p412; replace q412 := eq_true q412))
                            go_ret
                            exact ⟨by first | rfl | (simp [errW_none, errW_some] <;> rfl) | (simp only [← hji41]; first | rfl | (simp [errW_none, errW_some] <;> rfl)) | (simp [*, errW_none, errW_some] <;> rfl), by repeat (first | (with_reducible first | exact HB.out | apply below_alloc | apply pw_below_drewN | apply below_drew1 | refine below_set ?_ GE406.out) | exact HB.out)⟩
                          · rw [if_neg c43] at H
                            exact absurd H (by simp)
                        · rw [if_neg c42] at H
                          exact absurd H (by simp)
                    · rw [if_neg c36] at H
                      have c36b0 : (Op.bytesLess a1.toList (((rd_T32 l0_2 t409).f0).toList)) = false := by simpa using c36
                      clear c36
                      obtain rfl := Option.some.inj H
                      have hcz47_0 : wc.cell? ⟨gb406, 0, none⟩ = some (.int .i64 a0_0) := (blk_cell BK406.out 0).trans rfl
                      have hcz47_1 : wc.cell? ⟨gb406, 1, none⟩ = some (.int .i64 a0_1) := (blk_cell BK406.out 1).trans rfl
                      have hcz47_2 : wc.cell? ⟨gb406, 2, none⟩ = some (.slice A0_2 l0_2.length c0_2) := (blk_cell BK406.out 2).trans rfl
                      have hfz47_0 := blk_frozen BK406.out 0
                      have hfz47_1 := blk_frozen BK406.out 1
                      have hfz47_2 := blk_frozen BK406.out 2
                      go_wp2_with (first | ((with_reducible refine gate_callee (f := 12) rfl ?_); refine goesL_ (some 18) rfl rfl Try.func12 (by kernel_rfl) rfl #[.agg #[.int .i64 a0_0, .int .i64 a0_1, .slice A0_2 l0_2.length c0_2], .string a1] rfl (by (try simp only [List.map_toArray, List.map_cons, List.map_nil]); first | done | rfl | (simp only [List.length_drop, List.length_take]; rfl)) ?_; (with_reducible refine (node_Find.calls a0_0 a0_1 _ _ l0_2 a1 t409 _ ?side1 ?side2 A15.out).mono ?_); (case side1 => repeat (first | exact (Kd.C_below HR0_2.out HB.out) | (with_reducible refine Kd.C_alloc ?_ _) | (with_reducible refine Kd.C_drewN ?_ _) | (with_reducible refine Kd.C_drew ?_))); (case side2 => exact HC0_2.out); rintro e w48 ⟨rfl, hb⟩; refine ⟨_, rfl, ?_⟩; have n0_ := Aside0.mk (blk_below (g := gb406) (o := .cells #[.int .i64 a0_0, .int .i64 a0_1, .slice A0_2 l0_2.length c0_2] 24 (0, 0)) (by (with_reducible repeat (first | refine blk_drewN ?_ _ | refine blk_drew ?_ | refine blk_alloc ?_ _)); exact BK406.out) hb); have n1_ := Aside0.mk (below_step (by repeat (first | (with_reducible first | exact HB.out | apply below_alloc | apply pw_below_drewN | apply below_drew1 | refine below_set ?_ GE406.out) | exact HB.out)) hb); clear BK406; clear HB; have BK406 := n0_; have HB := n1_; clear n0_ n1_; (try clear hb); (try clear hb2); (try clear hk); (try clear hi); have hcz49_0 : w48.cell? ⟨gb406, 0, none⟩ = some (.int .i64 a0_0) := (blk_cell BK406.out 0).trans rfl; have hcz49_1 : w48.cell? ⟨gb406, 1, none⟩ = some (.int .i64 a0_1) := (blk_cell BK406.out 1).trans rfl; have hcz49_2 : w48.cell? ⟨gb406, 2, none⟩ = some (.slice A0_2 l0_2.length c0_2) := (blk_cell BK406.out 2).trans rfl; have hfz49_0 := blk_frozen BK406.out 0; have hfz49_1 := blk_frozen BK406.out 1; have hfz49_2 := blk_frozen BK406.out 2; have p411 : 0 ≤ (t409 : Int) := of_decide_eq_true (by first | (with_reducible assumption) | assumption); have q411 : t409 < (l0_2.length : Int) := of_decide_eq_true (by first | (with_reducible assumption) | assumption); obtain ⟨ad411, e411, hx411_0, hx411_1⟩ := at_T32 HR0_2.out t409 p411 q411; cases e411; replace hx411_0 := (HB.out.cell (World.block_lt_of_cell? w _ hx411_0)).trans hx411_0; replace hx411_1 := (HB.out.cell (World.block_lt_of_cell? w _ hx411_1)).trans hx411_1; replace p411 := eq_true p411; replace q411 := eq_true q411))
                      go_ret
                      exact ⟨by first | rfl | (simp [errW_none, errW_some] <;> rfl) | (simp [*, errW_none, errW_some] <;> rfl), by repeat (first | (with_reducible first | exact HB.out | apply below_alloc | apply pw_below_drewN | apply below_drew1 | refine below_set ?_ GE406.out) | exact HB.out)⟩
                  · rw [if_neg c35] at H
                    exact absurd H (by simp)
                · rw [if_neg c34] at H
                  exact absurd H (by simp)
  · replace c4 := Bool.eq_false_iff.mpr c4
    subst c4
    have H1 : (some false) = some r := by rw [if_neg (show ¬ (false = true) by decide)] at H; exact H
    clear H
    have H := H1
    clear H1
    obtain rfl := Option.some.inj H
    go_enter Try.func6, Try.ntmps6
    go_wp2_with (first | ((with_reducible refine gate_dst (N := 2) rfl ?_); (try (refine gate_guard (by rfl) ?_; dsimp only)); refine box_event ?hg (N := 2) ?hd (cs := #[.int .i64 a0_0, .int .i64 a0_1, .slice A0_2 l0_2.length c0_2]) (t := 24) ?hr ?_; (case hd => rfl); (case hg => rfl); (case hr => first | (go_simp; done) | (go_simp; rfl)); intro gb406 hg w50 hbox hb; have n0_ := Aside0.mk (below_step (by repeat (first | (with_reducible first | exact HB.out | apply below_alloc | apply pw_below_drewN | apply below_drew1) | exact HB.out)) hb); have n1_ := Aside0.mk (hbox); have n2_ := Aside0.mk ((by rw [hg]; exact (below_size (by repeat (first | (with_reducible first | exact HB.out | apply below_alloc | apply pw_below_drewN | apply below_drew1) | exact HB.out))) : w.heap.size ≤ gb406)); have n3_ := Aside0.mk ((by rw [hg]; exact (below_size (by repeat (first | (with_reducible first | exact HB.out | apply below_alloc | apply pw_below_drewN | apply below_drew1) | exact HB.out))) : w.heap.size ≤ gb406)); clear HB; have HB := n0_; have BK406 := n1_; have GW406 := n2_; have GE406 := n3_; clear n0_ n1_ n2_ n3_; clear hb hbox hg) | ((with_reducible refine gate_callee (f := 10) rfl ?_); refine goesL_ (some 6) rfl rfl Try.func10 (by kernel_rfl) rfl #[] rfl (by (try simp only [List.map_toArray, List.map_cons, List.map_nil]); first | done | rfl | (simp only [List.length_drop, List.length_take]; rfl)) ?_; (with_reducible refine (dasdlaw20_awake.calls k  false _ A3.out).mono ?_); rintro e w51 ⟨rfl, hb⟩; refine ⟨_, rfl, ?_⟩; have n0_ := Aside0.mk (blk_below (g := gb406) (o := .cells #[.int .i64 a0_0, .int .i64 a0_1, .slice A0_2 l0_2.length c0_2] 24 (0, 0)) (by (with_reducible repeat (first | refine blk_drewN ?_ _ | refine blk_drew ?_ | refine blk_alloc ?_ _)); exact BK406.out) hb); have n1_ := Aside0.mk (below_step (by repeat (first | (with_reducible first | exact HB.out | apply below_alloc | apply pw_below_drewN | apply below_drew1 | refine below_set ?_ GE406.out) | exact HB.out)) hb); clear BK406; clear HB; have BK406 := n0_; have HB := n1_; clear n0_ n1_; (try clear hb); (try clear hb2); (try clear hk); (try clear hi)))
    go_ret
    exact ⟨by first | rfl | (simp [errW_none, errW_some] <;> rfl) | (simp [*, errW_none, errW_some] <;> rfl), by repeat (first | (with_reducible first | exact HB.out | apply below_alloc | apply pw_below_drewN | apply below_drew1 | refine below_set ?_ GE406.out) | exact HB.out)⟩

end Go.Proofs.Ytffkgdaookidbaa.XNx
