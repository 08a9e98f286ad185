/- Written by xprint.py, a program of this session: what functions of the program answer, each by a walk of its code; no condition beside those in the statements. -/
import Derived.Test.YtffkgdaookidbaaXNx0
import Derived.Test.YtffkgdaookidbaaXNx13
import Derived.Test.YtffkgdaookidbaaXNx14
import Derived.Test.YtffkgdaookidbaaXNx15
import Derived.Test.YtffkgdaookidbaaExtFind
import Derived.Test.YtffkgdaookidbaaExtInsert
namespace Go.Proofs.Ytffkgdaookidbaa.XNx
open Go.RowKit Go.Proofs.YtffkgdaookidbaaW.PrintWords Go.Proofs.YtffkgdaookidbaaW.PrintLast Go.Proofs.YtffkgdaookidbaaW.PrintMore
attribute [local go_sem] max2_int min2_int max_two min_two max_three min_three max_four min_four   -- for this text's walks alone
open Go.Proofs.Ytffkgdaookidbaa.XW
set_option linter.unusedVariables false
set_option linter.unusedSimpArgs false

/-! ### dasdlaw20_NodeInserts: function 3 -/
mutual
def dasdlaw20_NodeInserts.j0 : Nat → ByteArray → ByteArray → Int → Bool → Int → Int → List (S32) → Option (Bool)
  | 0, _, _, _, _, _, _, _ => none
  | k + 1, x1, x2, x3, x27, x221000, x221001, x221002 => if x27 = true then (some true) else ((node_Find.f x221000 x221001 x221002 x1).bind fun t223 => ((node_Insert.f x221000 x221001 x221002 t223 x1 x3).bind fun bt224 => (if t223 < 0 then (dasdlaw20_NodeInserts.j1 k x1 x2 x3 t223 bt224.2.2.2 true x221000 x221001 x221002 bt224.1 bt224.2.1 bt224.2.2.1) else (dasdlaw20_NodeInserts.j1 k x1 x2 x3 t223 bt224.2.2.2 (decide (t223 ≥ (x221002.length : Int))) x221000 x221001 x221002 bt224.1 bt224.2.1 bt224.2.2.1))))
def dasdlaw20_NodeInserts.j1 : Nat → ByteArray → ByteArray → Int → Int → Int → Bool → Int → Int → List (S32) → Int → Int → List (S32) → Option (Bool)
  | 0, _, _, _, _, _, _, _, _, _, _, _, _ => none
  | k + 1, x1, x2, x3, x9, x11, x47, x221000, x221001, x221002, x231000, x231001, x231002 => if x47 = true then (some false) else (if x11 = 0 then ((dasdlaw20_page.f x221000 x221001 x221002 x2).bind fun t232 => ((node_Find.f x221000 x221001 x221002 x2).bind fun t233 => (if t233 = x9 then (dasdlaw20_NodeInserts.j2 k x2 x3 t232 (!(Op.bytesLess x2.toList x1.toList)) x221000 x221001 x221002 x231000 x231001 x231002) else (dasdlaw20_NodeInserts.j2 k x2 x3 t232 false x221000 x221001 x221002 x231000 x231001 x231002)))) else (if (x231002.length : Int) = 0 then (if x1.toList = ([] : List UInt8) then (some true) else (if (x1.size : Int) > 32 then (some true) else (if x3 < 1 then (some true) else (if x3 > 16777216 then (some true) else (if (x221002.length : Int) = 120 then (some true) else (if x9 > 0 then (if 0 ≤ (wrap64 (x9 - 1)) then (if (wrap64 (x9 - 1)) < (x221002.length : Int) then (some (((rd_T32 x221002 (wrap64 (x9 - 1))).f0).toList == x1.toList)) else (none)) else (none)) else (some false))))))) else (some false)))
def dasdlaw20_NodeInserts.j2 : Nat → ByteArray → Int → Int → Bool → Int → Int → List (S32) → Int → Int → List (S32) → Option (Bool)
  | 0, _, _, _, _, _, _, _, _, _, _ => none
  | k + 1, x2, x3, x12, x104, x221000, x221001, x221002, x231000, x231001, x231002 => if x104 = true then ((dasdref20_IsNode.f k x231000 x231001 x231002).bind fun t234 => (if t234 = true then (if (x231002.length : Int) = (wrap64 ((x221002.length : Int) + 1)) then ((dasdlaw20_page.f x231000 x231001 x231002 x2).bind fun t235 => (some (t235 == x3))) else (some false)) else (some false))) else ((dasdref20_IsNode.f k x231000 x231001 x231002).bind fun t236 => (if t236 = true then (if (x231002.length : Int) = (wrap64 ((x221002.length : Int) + 1)) then ((dasdlaw20_page.f x231000 x231001 x231002 x2).bind fun t237 => (some (t237 == x12))) else (some false)) else (some false)))
end
def dasdlaw20_NodeInserts.f (k : Nat) (a0_0 : Int) (a0_1 : Int) (l0_2 : List (S32)) (a1 : ByteArray) (a2 : ByteArray) (a3 : Int) : Option (Bool) := (dasdlaw20_awake.f k).bind fun t221 => (if t221 = true then ((dasdref20_IsNode.f k a0_0 a0_1 l0_2).bind fun t222 => (if t222 = true then (if (a2.size : Int) > 100 then (dasdlaw20_NodeInserts.j0 k a1 a2 a3 true a0_0 a0_1 l0_2) else (dasdlaw20_NodeInserts.j0 k a1 a2 a3 (decide ((a1.size : Int) > 100)) a0_0 a0_1 l0_2)) else (dasdlaw20_NodeInserts.j0 k a1 a2 a3 true a0_0 a0_1 l0_2))) else (some false))
theorem dasdlaw20_NodeInserts.mono_l : ∀ k, (∀ y0 y1 y2 y3 y4 y5 y6, LeO (dasdlaw20_NodeInserts.j0 k y0 y1 y2 y3 y4 y5 y6) (dasdlaw20_NodeInserts.j0 (k + 1) y0 y1 y2 y3 y4 y5 y6)) ∧ (∀ y0 y1 y2 y3 y4 y5 y6 y7 y8 y9 y10 y11, LeO (dasdlaw20_NodeInserts.j1 k y0 y1 y2 y3 y4 y5 y6 y7 y8 y9 y10 y11) (dasdlaw20_NodeInserts.j1 (k + 1) y0 y1 y2 y3 y4 y5 y6 y7 y8 y9 y10 y11)) ∧ (∀ y0 y1 y2 y3 y4 y5 y6 y7 y8 y9, LeO (dasdlaw20_NodeInserts.j2 k y0 y1 y2 y3 y4 y5 y6 y7 y8 y9) (dasdlaw20_NodeInserts.j2 (k + 1) y0 y1 y2 y3 y4 y5 y6 y7 y8 y9))
  | 0 => ⟨fun _ _ _ _ _ _ _ r h => by simp [dasdlaw20_NodeInserts.j0] at h, fun _ _ _ _ _ _ _ _ _ _ _ _ r h => by simp [dasdlaw20_NodeInserts.j1] at h, fun _ _ _ _ _ _ _ _ _ _ r h => by simp [dasdlaw20_NodeInserts.j2] at h⟩
  | k + 1 => by
    obtain ⟨ih0, ih1, ih2⟩ := dasdlaw20_NodeInserts.mono_l k
    refine ⟨?_, ?_, ?_⟩
    · intro y0 y1 y2 y3 y4 y5 y6
      unfold dasdlaw20_NodeInserts.j0
      repeat' first
      | (with_reducible exact ih0 _ _ _ _ _ _ _)
      | (with_reducible exact ih1 _ _ _ _ _ _ _ _ _ _ _ _)
      | (with_reducible exact ih2 _ _ _ _ _ _ _ _ _ _)
      | (with_reducible exact dasdlaw20_awake.mono _)
      | (with_reducible exact dasdref20_IsNode.mono _ _ _ _)
      | (with_reducible exact LeO.refl _)
      | (with_reducible exact LeO.none _)
      | (with_reducible refine LeO.ite ?_ ?_)
      | (with_reducible refine LeO.bind ?_ (fun _ => ?_))
      | exact ih0 _ _ _ _ _ _ _
      | exact ih1 _ _ _ _ _ _ _ _ _ _ _ _
      | exact ih2 _ _ _ _ _ _ _ _ _ _
      | exact dasdlaw20_awake.mono _
      | exact dasdref20_IsNode.mono _ _ _ _
      | exact LeO.none _
      | refine LeO.ite ?_ ?_
      | refine LeO.bind ?_ (fun _ => ?_)
    · intro y0 y1 y2 y3 y4 y5 y6 y7 y8 y9 y10 y11
      unfold dasdlaw20_NodeInserts.j1
      repeat' first
      | (with_reducible exact ih0 _ _ _ _ _ _ _)
      | (with_reducible exact ih1 _ _ _ _ _ _ _ _ _ _ _ _)
      | (with_reducible exact ih2 _ _ _ _ _ _ _ _ _ _)
      | (with_reducible exact dasdlaw20_awake.mono _)
      | (with_reducible exact dasdref20_IsNode.mono _ _ _ _)
      | (with_reducible exact LeO.refl _)
      | (with_reducible exact LeO.none _)
      | (with_reducible refine LeO.ite ?_ ?_)
      | (with_reducible refine LeO.bind ?_ (fun _ => ?_))
      | exact ih0 _ _ _ _ _ _ _
      | exact ih1 _ _ _ _ _ _ _ _ _ _ _ _
      | exact ih2 _ _ _ _ _ _ _ _ _ _
      | exact dasdlaw20_awake.mono _
      | exact dasdref20_IsNode.mono _ _ _ _
      | exact LeO.none _
      | refine LeO.ite ?_ ?_
      | refine LeO.bind ?_ (fun _ => ?_)
    · intro y0 y1 y2 y3 y4 y5 y6 y7 y8 y9
      unfold dasdlaw20_NodeInserts.j2
      repeat' first
      | (with_reducible exact ih0 _ _ _ _ _ _ _)
      | (with_reducible exact ih1 _ _ _ _ _ _ _ _ _ _ _ _)
      | (with_reducible exact ih2 _ _ _ _ _ _ _ _ _ _)
      | (with_reducible exact dasdlaw20_awake.mono _)
      | (with_reducible exact dasdref20_IsNode.mono _ _ _ _)
      | (with_reducible exact LeO.refl _)
      | (with_reducible exact LeO.none _)
      | (with_reducible refine LeO.ite ?_ ?_)
      | (with_reducible refine LeO.bind ?_ (fun _ => ?_))
      | exact ih0 _ _ _ _ _ _ _
      | exact ih1 _ _ _ _ _ _ _ _ _ _ _ _
      | exact ih2 _ _ _ _ _ _ _ _ _ _
      | exact dasdlaw20_awake.mono _
      | exact dasdref20_IsNode.mono _ _ _ _
      | exact LeO.none _
      | refine LeO.ite ?_ ?_
      | refine LeO.bind ?_ (fun _ => ?_)
theorem dasdlaw20_NodeInserts.mono : ∀ a0 a1 a2 a3 a4 a5 k, LeO (dasdlaw20_NodeInserts.f k a0 a1 a2 a3 a4 a5) (dasdlaw20_NodeInserts.f (k + 1) a0 a1 a2 a3 a4 a5) := by
  intro a0 a1 a2 a3 a4 a5 k
  obtain ⟨ih0, ih1, ih2⟩ := dasdlaw20_NodeInserts.mono_l k
  unfold dasdlaw20_NodeInserts.f
  repeat' first
      | (with_reducible exact ih0 _ _ _ _ _ _ _)
      | (with_reducible exact ih1 _ _ _ _ _ _ _ _ _ _ _ _)
      | (with_reducible exact ih2 _ _ _ _ _ _ _ _ _ _)
      | (with_reducible exact dasdlaw20_awake.mono _)
      | (with_reducible exact dasdref20_IsNode.mono _ _ _ _)
      | (with_reducible exact LeO.refl _)
      | (with_reducible exact LeO.none _)
      | (with_reducible refine LeO.ite ?_ ?_)
      | (with_reducible refine LeO.bind ?_ (fun _ => ?_))
      | exact ih0 _ _ _ _ _ _ _
      | exact ih1 _ _ _ _ _ _ _ _ _ _ _ _
      | exact ih2 _ _ _ _ _ _ _ _ _ _
      | exact dasdlaw20_awake.mono _
      | exact dasdref20_IsNode.mono _ _ _ _
      | exact LeO.none _
      | refine LeO.ite ?_ ?_
      | refine LeO.bind ?_ (fun _ => ?_)
set_option maxHeartbeats 8000000 in
set_option maxRecDepth 100000 in
theorem dasdlaw20_NodeInserts.calls (k : Nat) (a0_0 : Int) (a0_1 : Int) (A0_2 : Option Addr) (c0_2 : Nat) (l0_2 : List (S32)) (a1 : ByteArray) (a2 : ByteArray) (a3 : Int) (r : Bool) (w : World) (hr0_2 : Kd.C k32 w A0_2 l0_2.length l0_2) (hc0_2 : l0_2.length ≤ c0_2) (h : dasdlaw20_NodeInserts.f k a0_0 a0_1 l0_2 a1 a2 a3 = some r) :
    Calls Try.prog 3 #[.agg #[.int .i64 a0_0, .int .i64 a0_1, .slice A0_2 l0_2.length c0_2], .string a1, .string a2, .int .i64 a3] w fun e w' => e = .returned (.bool r) ∧ Below w.heap.size w w' := by
  have hu24 := Try.underlying24
  have HR0_2 := Aside0.mk hr0_2
  have HC0_2 := Aside0.mk hc0_2
  clear hr0_2 hc0_2
  have HB := Aside0.mk (Below.refl w.heap.size w)
  have H : ((dasdlaw20_awake.f k).bind fun t221 => (if t221 = true then ((dasdref20_IsNode.f k a0_0 a0_1 l0_2).bind fun t222 => (if t222 = true then (if (a2.size : Int) > 100 then (dasdlaw20_NodeInserts.j0 k a1 a2 a3 true a0_0 a0_1 l0_2) else (dasdlaw20_NodeInserts.j0 k a1 a2 a3 (decide ((a1.size : Int) > 100)) a0_0 a0_1 l0_2)) else (dasdlaw20_NodeInserts.j0 k a1 a2 a3 true a0_0 a0_1 l0_2))) else (some false))) = some r := h
  clear h
  replace H := Option.bind_eq_some_iff.mp H
  obtain ⟨t221, A50, H⟩ := H
  replace H : (if t221 = true then ((dasdref20_IsNode.f k a0_0 a0_1 l0_2).bind fun t222 => (if t222 = true then (if (a2.size : Int) > 100 then (dasdlaw20_NodeInserts.j0 k a1 a2 a3 true a0_0 a0_1 l0_2) else (dasdlaw20_NodeInserts.j0 k a1 a2 a3 (decide ((a1.size : Int) > 100)) a0_0 a0_1 l0_2)) else (dasdlaw20_NodeInserts.j0 k a1 a2 a3 true a0_0 a0_1 l0_2))) else (some false)) = some r := H
  have A5 := Aside0.mk A50
  clear A50
  by_cases c6 : t221 = true
  · subst c6
    have H1 : ((dasdref20_IsNode.f k a0_0 a0_1 l0_2).bind fun t222 => (if t222 = true then (if (a2.size : Int) > 100 then (dasdlaw20_NodeInserts.j0 k a1 a2 a3 true a0_0 a0_1 l0_2) else (dasdlaw20_NodeInserts.j0 k a1 a2 a3 (decide ((a1.size : Int) > 100)) a0_0 a0_1 l0_2)) else (dasdlaw20_NodeInserts.j0 k a1 a2 a3 true a0_0 a0_1 l0_2))) = some r := by rw [if_pos rfl] at H; exact H
    clear H
    have H := H1
    clear H1
    have HC7 := Aside0.mk H
    clear H
    go_enter Try.func3, Try.ntmps3
    go_upto_region 3 with (first | ((with_reducible refine gate_dst (N := 4) rfl ?_); (try (refine gate_guard (by rfl) ?_; dsimp only)); refine box_event ?hg (N := 4) ?hd (cs := #[.int .i64 a0_0, .int .i64 a0_1, .slice A0_2 l0_2.length c0_2]) (t := 24) ?hr ?_; (case hd => rfl); (case hg => rfl); (case hr => first | (go_simp; done) | (go_simp; rfl)); intro gb220 hg w8 hbox hb; have n0_ := Aside0.mk (below_step (by repeat (first | (with_reducible first | exact HB.out | apply below_alloc | apply pw_below_drewN | apply below_drew1) | exact HB.out)) hb); have n1_ := Aside0.mk (hbox); have n2_ := Aside0.mk ((by rw [hg]; exact (below_size (by repeat (first | (with_reducible first | exact HB.out | apply below_alloc | apply pw_below_drewN | apply below_drew1) | exact HB.out))) : w.heap.size ≤ gb220)); have n3_ := Aside0.mk ((by rw [hg]; exact (below_size (by repeat (first | (with_reducible first | exact HB.out | apply below_alloc | apply pw_below_drewN | apply below_drew1) | exact HB.out))) : w.heap.size ≤ gb220)); clear HB; have HB := n0_; have BK220 := n1_; have GW220 := n2_; have GE220 := n3_; clear n0_ n1_ n2_ n3_; clear hb hbox hg) | ((with_reducible refine gate_callee (f := 10) rfl ?_); refine goesL_ (some 13) rfl rfl Try.func10 (by kernel_rfl) rfl #[] rfl (by (try simp only [List.map_toArray, List.map_cons, List.map_nil]); first | done | rfl | (simp only [List.length_drop, List.length_take]; rfl)) ?_; (with_reducible refine (dasdlaw20_awake.calls k  true _ A5.out).mono ?_); rintro e w9 ⟨rfl, hb⟩; refine ⟨_, rfl, ?_⟩; have n0_ := Aside0.mk (blk_below (g := gb220) (o := .cells #[.int .i64 a0_0, .int .i64 a0_1, .slice A0_2 l0_2.length c0_2] 24 (0, 0)) (by (with_reducible repeat (first | refine blk_drewN ?_ _ | refine blk_drew ?_ | refine blk_alloc ?_ _)); exact BK220.out) hb); have n1_ := Aside0.mk (below_step (by repeat (first | (with_reducible first | exact HB.out | apply below_alloc | apply pw_below_drewN | apply below_drew1 | refine below_set ?_ GE220.out) | exact HB.out)) hb); clear BK220; clear HB; have BK220 := n0_; have HB := n1_; clear n0_ n1_; (try clear hb); (try clear hb2); (try clear hk); (try clear hi)))
    (try simp only [Act.put, List.setIfInBounds_toArray, List.set_cons_zero, List.set_cons_succ])
    go_cut [27] (fun v27 wc => ∃ (kq : Nat) (x27_6 : Bool), v27 = .bool x27_6 ∧ Aside0 (dasdlaw20_NodeInserts.j0 kq a1 a2 a3 x27_6 a0_0 a0_1 l0_2 = some r) ∧ Aside0 (kq ≤ k) ∧ Aside0 (wc.heap[gb220]? = some (.cells #[.int .i64 a0_0, .int .i64 a0_1, (.slice A0_2 l0_2.length c0_2)] 24 (0, 0))) ∧ Aside0 (Below w.heap.size w wc))
    case first =>
      have H := HC7.out
      clear HC7
      replace H := Option.bind_eq_some_iff.mp H
      obtain ⟨t222, A100, H⟩ := H
      replace H : (if t222 = true then (if (a2.size : Int) > 100 then (dasdlaw20_NodeInserts.j0 k a1 a2 a3 true a0_0 a0_1 l0_2) else (dasdlaw20_NodeInserts.j0 k a1 a2 a3 (decide ((a1.size : Int) > 100)) a0_0 a0_1 l0_2)) else (dasdlaw20_NodeInserts.j0 k a1 a2 a3 true a0_0 a0_1 l0_2)) = some r := H
      have A10 := Aside0.mk A100
      clear A100
      by_cases c11 : t222 = true
      · subst c11
        have H1 : (if (a2.size : Int) > 100 then (dasdlaw20_NodeInserts.j0 k a1 a2 a3 true a0_0 a0_1 l0_2) else (dasdlaw20_NodeInserts.j0 k a1 a2 a3 (decide ((a1.size : Int) > 100)) a0_0 a0_1 l0_2)) = some r := by rw [if_pos rfl] at H; exact H
        clear H
        have H := H1
        clear H1
        by_cases c12 : (a2.size : Int) > 100
        · rw [if_pos c12] at H
          have c12b0 : decide (100 < (a2.size : Int)) = true := decide_eq_true c12
          have c12b1 : decide (100 < a2.size) = true := decide_eq_true (by omega)
          clear c12
          (first | rw [c12b0] | (simp only [i64_w, i32_w]; rw [c12b0]) | skip)
          have H' := Aside0.mk H
          clear H
          have hcz13_0 : w9.cell? ⟨gb220, 0, none⟩ = some (.int .i64 a0_0) := (blk_cell BK220.out 0).trans rfl
          have hcz13_1 : w9.cell? ⟨gb220, 1, none⟩ = some (.int .i64 a0_1) := (blk_cell BK220.out 1).trans rfl
          have hcz13_2 : w9.cell? ⟨gb220, 2, none⟩ = some (.slice A0_2 l0_2.length c0_2) := (blk_cell BK220.out 2).trans rfl
          have hfz13_0 := blk_frozen BK220.out 0
          have hfz13_1 := blk_frozen BK220.out 1
          have hfz13_2 := blk_frozen BK220.out 2
          go_wp2_with (first | ((with_reducible refine gate_callee (f := 11) rfl ?_); refine goesL_ (some 16) rfl rfl Try.func11 (by kernel_rfl) rfl #[.agg #[.int .i64 a0_0, .int .i64 a0_1, .slice A0_2 l0_2.length c0_2]] rfl (by (try simp only [List.map_toArray, List.map_cons, List.map_nil]); first | done | rfl | (simp only [List.length_drop, List.length_take]; rfl)) ?_; (with_reducible refine (dasdref20_IsNode.calls k a0_0 a0_1 _ _ l0_2 true _ ?side1 ?side2 A10.out).mono ?_); (case side1 => repeat (first | exact (Kd.C_below HR0_2.out HB.out) | (with_reducible refine Kd.C_alloc ?_ _) | (with_reducible refine Kd.C_drewN ?_ _) | (with_reducible refine Kd.C_drew ?_))); (case side2 => exact HC0_2.out); rintro e w14 ⟨rfl, hb⟩; refine ⟨_, rfl, ?_⟩; have n0_ := Aside0.mk (blk_below (g := gb220) (o := .cells #[.int .i64 a0_0, .int .i64 a0_1, .slice A0_2 l0_2.length c0_2] 24 (0, 0)) (by (with_reducible repeat (first | refine blk_drewN ?_ _ | refine blk_drew ?_ | refine blk_alloc ?_ _)); exact BK220.out) hb); have n1_ := Aside0.mk (below_step (by repeat (first | (with_reducible first | exact HB.out | apply below_alloc | apply pw_below_drewN | apply below_drew1 | refine below_set ?_ GE220.out) | exact HB.out)) hb); clear BK220; clear HB; have BK220 := n0_; have HB := n1_; clear n0_ n1_; (try clear hb); (try clear hb2); (try clear hk); (try clear hi)))
          go_meet
          case rel => exact ⟨_, (true), (by first | rfl | (simp; done) | (simp [*]; done)), H', ⟨by first | omega | exact Nat.le_refl _⟩, ⟨by (with_reducible repeat (first | refine blk_drewN ?_ _ | refine blk_drew ?_ | refine blk_alloc ?_ _)); exact BK220.out⟩, ⟨by repeat (first | (with_reducible first | exact HB.out | apply below_alloc | apply pw_below_drewN | apply below_drew1 | refine below_set ?_ GE220.out) | exact HB.out)⟩⟩
        · rw [if_neg c12] at H
          have c12b0 : decide (100 < (a2.size : Int)) = false := decide_eq_false c12
          have c12b1 : decide (100 < a2.size) = false := decide_eq_false (by omega)
          clear c12
          (first | rw [c12b0] | (simp only [i64_w, i32_w]; rw [c12b0]) | skip)
          have H' := Aside0.mk H
          clear H
          have hcz15_0 : w9.cell? ⟨gb220, 0, none⟩ = some (.int .i64 a0_0) := (blk_cell BK220.out 0).trans rfl
          have hcz15_1 : w9.cell? ⟨gb220, 1, none⟩ = some (.int .i64 a0_1) := (blk_cell BK220.out 1).trans rfl
          have hcz15_2 : w9.cell? ⟨gb220, 2, none⟩ = some (.slice A0_2 l0_2.length c0_2) := (blk_cell BK220.out 2).trans rfl
          have hfz15_0 := blk_frozen BK220.out 0
          have hfz15_1 := blk_frozen BK220.out 1
          have hfz15_2 := blk_frozen BK220.out 2
          go_wp2_with (first | ((with_reducible refine gate_callee (f := 11) rfl ?_); refine goesL_ (some 16) rfl rfl Try.func11 (by kernel_rfl) rfl #[.agg #[.int .i64 a0_0, .int .i64 a0_1, .slice A0_2 l0_2.length c0_2]] rfl (by (try simp only [List.map_toArray, List.map_cons, List.map_nil]); first | done | rfl | (simp only [List.length_drop, List.length_take]; rfl)) ?_; (with_reducible refine (dasdref20_IsNode.calls k a0_0 a0_1 _ _ l0_2 true _ ?side1 ?side2 A10.out).mono ?_); (case side1 => repeat (first | exact (Kd.C_below HR0_2.out HB.out) | (with_reducible refine Kd.C_alloc ?_ _) | (with_reducible refine Kd.C_drewN ?_ _) | (with_reducible refine Kd.C_drew ?_))); (case side2 => exact HC0_2.out); rintro e w16 ⟨rfl, hb⟩; refine ⟨_, rfl, ?_⟩; have n0_ := Aside0.mk (blk_below (g := gb220) (o := .cells #[.int .i64 a0_0, .int .i64 a0_1, .slice A0_2 l0_2.length c0_2] 24 (0, 0)) (by (with_reducible repeat (first | refine blk_drewN ?_ _ | refine blk_drew ?_ | refine blk_alloc ?_ _)); exact BK220.out) hb); have n1_ := Aside0.mk (below_step (by repeat (first | (with_reducible first | exact HB.out | apply below_alloc | apply pw_below_drewN | apply below_drew1 | refine below_set ?_ GE220.out) | exact HB.out)) hb); clear BK220; clear HB; have BK220 := n0_; have HB := n1_; clear n0_ n1_; (try clear hb); (try clear hb2); (try clear hk); (try clear hi)))
          go_meet
          case rel => exact ⟨_, (decide ((a1.size : Int) > 100)), (by first | rfl | (simp; done) | (simp [*]; done)), H', ⟨by first | omega | exact Nat.le_refl _⟩, ⟨by (with_reducible repeat (first | refine blk_drewN ?_ _ | refine blk_drew ?_ | refine blk_alloc ?_ _)); exact BK220.out⟩, ⟨by repeat (first | (with_reducible first | exact HB.out | apply below_alloc | apply pw_below_drewN | apply below_drew1 | refine below_set ?_ GE220.out) | exact HB.out)⟩⟩
      · replace c11 := Bool.eq_false_iff.mpr c11
        subst c11
        have H1 : (dasdlaw20_NodeInserts.j0 k a1 a2 a3 true a0_0 a0_1 l0_2) = some r := by rw [if_neg (show ¬ (false = true) by decide)] at H; exact H
        clear H
        have H := H1
        clear H1
        have H' := Aside0.mk H
        clear H
        have hcz17_0 : w9.cell? ⟨gb220, 0, none⟩ = some (.int .i64 a0_0) := (blk_cell BK220.out 0).trans rfl
        have hcz17_1 : w9.cell? ⟨gb220, 1, none⟩ = some (.int .i64 a0_1) := (blk_cell BK220.out 1).trans rfl
        have hcz17_2 : w9.cell? ⟨gb220, 2, none⟩ = some (.slice A0_2 l0_2.length c0_2) := (blk_cell BK220.out 2).trans rfl
        have hfz17_0 := blk_frozen BK220.out 0
        have hfz17_1 := blk_frozen BK220.out 1
        have hfz17_2 := blk_frozen BK220.out 2
        go_wp2_with (first | ((with_reducible refine gate_callee (f := 11) rfl ?_); refine goesL_ (some 16) rfl rfl Try.func11 (by kernel_rfl) rfl #[.agg #[.int .i64 a0_0, .int .i64 a0_1, .slice A0_2 l0_2.length c0_2]] rfl (by (try simp only [List.map_toArray, List.map_cons, List.map_nil]); first | done | rfl | (simp only [List.length_drop, List.length_take]; rfl)) ?_; (with_reducible refine (dasdref20_IsNode.calls k a0_0 a0_1 _ _ l0_2 false _ ?side1 ?side2 A10.out).mono ?_); (case side1 => repeat (first | exact (Kd.C_below HR0_2.out HB.out) | (with_reducible refine Kd.C_alloc ?_ _) | (with_reducible refine Kd.C_drewN ?_ _) | (with_reducible refine Kd.C_drew ?_))); (case side2 => exact HC0_2.out); rintro e w18 ⟨rfl, hb⟩; refine ⟨_, rfl, ?_⟩; have n0_ := Aside0.mk (blk_below (g := gb220) (o := .cells #[.int .i64 a0_0, .int .i64 a0_1, .slice A0_2 l0_2.length c0_2] 24 (0, 0)) (by (with_reducible repeat (first | refine blk_drewN ?_ _ | refine blk_drew ?_ | refine blk_alloc ?_ _)); exact BK220.out) hb); have n1_ := Aside0.mk (below_step (by repeat (first | (with_reducible first | exact HB.out | apply below_alloc | apply pw_below_drewN | apply below_drew1 | refine below_set ?_ GE220.out) | exact HB.out)) hb); clear BK220; clear HB; have BK220 := n0_; have HB := n1_; clear n0_ n1_; (try clear hb); (try clear hb2); (try clear hk); (try clear hi)))
        go_meet
        case rel => exact ⟨_, (true), (by first | rfl | (simp; done) | (simp [*]; done)), H', ⟨by first | omega | exact Nat.le_refl _⟩, ⟨by (with_reducible repeat (first | refine blk_drewN ?_ _ | refine blk_drew ?_ | refine blk_alloc ?_ _)); exact BK220.out⟩, ⟨by repeat (first | (with_reducible first | exact HB.out | apply below_alloc | apply pw_below_drewN | apply below_drew1 | refine below_set ?_ GE220.out) | exact HB.out)⟩⟩
    case rest =>
      clear HC7
      try clear c1
      try clear p2
      try clear c3
      try clear c6
      try clear c10
      try clear c11
      try clear c12
      try clear c12b0
      try clear c12b1
      try clear hcz13_0
      try clear hcz13_1
      try clear hcz13_2
      try clear hcz15_0
      try clear hcz15_1
      try clear hcz15_2
      try clear hcz17_0
      try clear hcz17_1
      try clear hcz17_2
      try clear hfz13_0
      try clear hfz13_1
      try clear hfz13_2
      try clear hfz15_0
      try clear hfz15_1
      try clear hfz15_2
      try clear hfz17_0
      try clear hfz17_1
      try clear hfz17_2
      obtain ⟨kq, x27_6, rfl, HA, HJ6, BK220, HB⟩ := hcut
      cases kq with
      | zero => exact absurd HA.out (by simp [dasdlaw20_NodeInserts.j0])
      | succ kj6 =>
        have H := HA.out
        clear HA
        simp only [dasdlaw20_NodeInserts.j0] at H
        by_cases c19 : x27_6 = true
        · subst c19
          have H1 : (some true) = some r := by rw [if_pos rfl] at H; exact H
          clear H
          have H := H1
          clear H1
          obtain rfl := Option.some.inj H
          go_wp2
          go_ret
          exact ⟨by first | rfl | (simp [errW_none, errW_some] <;> rfl) | (simp [*, errW_none, errW_some] <;> rfl), by repeat (first | (with_reducible first | exact HB.out | apply below_alloc | apply pw_below_drewN | apply below_drew1 | refine below_set ?_ GE220.out) | exact HB.out)⟩
        · replace c19 := Bool.eq_false_iff.mpr c19
          subst c19
          have H1 : ((node_Find.f a0_0 a0_1 l0_2 a1).bind fun t223 => ((node_Insert.f a0_0 a0_1 l0_2 t223 a1 a3).bind fun bt224 => (if t223 < 0 then (dasdlaw20_NodeInserts.j1 kj6 a1 a2 a3 t223 bt224.2.2.2 true a0_0 a0_1 l0_2 bt224.1 bt224.2.1 bt224.2.2.1) else (dasdlaw20_NodeInserts.j1 kj6 a1 a2 a3 t223 bt224.2.2.2 (decide (t223 ≥ (l0_2.length : Int))) a0_0 a0_1 l0_2 bt224.1 bt224.2.1 bt224.2.2.1)))) = some r := by rw [if_neg (show ¬ (false = true) by decide)] at H; exact H
          clear H
          have H := H1
          clear H1
          replace H := Option.bind_eq_some_iff.mp H
          obtain ⟨t223, A200, H⟩ := H
          replace H : ((node_Insert.f a0_0 a0_1 l0_2 t223 a1 a3).bind fun bt224 => (if t223 < 0 then (dasdlaw20_NodeInserts.j1 kj6 a1 a2 a3 t223 bt224.2.2.2 true a0_0 a0_1 l0_2 bt224.1 bt224.2.1 bt224.2.2.1) else (dasdlaw20_NodeInserts.j1 kj6 a1 a2 a3 t223 bt224.2.2.2 (decide (t223 ≥ (l0_2.length : Int))) a0_0 a0_1 l0_2 bt224.1 bt224.2.1 bt224.2.2.1))) = some r := H
          have A20 := Aside0.mk A200
          clear A200
          replace H := Option.bind_eq_some_iff.mp H
          obtain ⟨⟨t224, t225, t226, t229⟩, A210, H⟩ := H
          replace H : (if t223 < 0 then (dasdlaw20_NodeInserts.j1 kj6 a1 a2 a3 t223 t229 true a0_0 a0_1 l0_2 t224 t225 t226) else (dasdlaw20_NodeInserts.j1 kj6 a1 a2 a3 t223 t229 (decide (t223 ≥ (l0_2.length : Int))) a0_0 a0_1 l0_2 t224 t225 t226)) = some r := H
          have A21 := Aside0.mk A210
          clear A210
          have HC22 := Aside0.mk H
          clear H
          have hcz23_0 : wc.cell? ⟨gb220, 0, none⟩ = some (.int .i64 a0_0) := (blk_cell BK220.out 0).trans rfl
          have hcz23_1 : wc.cell? ⟨gb220, 1, none⟩ = some (.int .i64 a0_1) := (blk_cell BK220.out 1).trans rfl
          have hcz23_2 : wc.cell? ⟨gb220, 2, none⟩ = some (.slice A0_2 l0_2.length c0_2) := (blk_cell BK220.out 2).trans rfl
          have hfz23_0 := blk_frozen BK220.out 0
          have hfz23_1 := blk_frozen BK220.out 1
          have hfz23_2 := blk_frozen BK220.out 2
          go_upto_region 7 with (first | ((with_reducible refine gate_callee (f := 12) rfl ?_); refine goesL_ (some 30) rfl rfl Try.func12 (by kernel_rfl) rfl #[.agg #[.int .i64 a0_0, .int .i64 a0_1, .slice A0_2 l0_2.length c0_2], .string a1] rfl (by (try simp only [List.map_toArray, List.map_cons, List.map_nil]); first | done | rfl | (simp only [List.length_drop, List.length_take]; rfl)) ?_; (with_reducible refine (node_Find.calls a0_0 a0_1 _ _ l0_2 a1 t223 _ ?side1 ?side2 A20.out).mono ?_); (case side1 => repeat (first | exact (Kd.C_below HR0_2.out HB.out) | (with_reducible refine Kd.C_alloc ?_ _) | (with_reducible refine Kd.C_drewN ?_ _) | (with_reducible refine Kd.C_drew ?_))); (case side2 => exact HC0_2.out); rintro e w24 ⟨rfl, hb⟩; refine ⟨_, rfl, ?_⟩; have n0_ := Aside0.mk (blk_below (g := gb220) (o := .cells #[.int .i64 a0_0, .int .i64 a0_1, .slice A0_2 l0_2.length c0_2] 24 (0, 0)) (by (with_reducible repeat (first | refine blk_drewN ?_ _ | refine blk_drew ?_ | refine blk_alloc ?_ _)); exact BK220.out) hb); have n1_ := Aside0.mk (below_step (by repeat (first | (with_reducible first | exact HB.out | apply below_alloc | apply pw_below_drewN | apply below_drew1 | refine below_set ?_ GE220.out) | exact HB.out)) hb); clear BK220; clear HB; have BK220 := n0_; have HB := n1_; clear n0_ n1_; (try clear hb); (try clear hb2); (try clear hk); (try clear hi); have hcz25_0 : w24.cell? ⟨gb220, 0, none⟩ = some (.int .i64 a0_0) := (blk_cell BK220.out 0).trans rfl; have hcz25_1 : w24.cell? ⟨gb220, 1, none⟩ = some (.int .i64 a0_1) := (blk_cell BK220.out 1).trans rfl; have hcz25_2 : w24.cell? ⟨gb220, 2, none⟩ = some (.slice A0_2 l0_2.length c0_2) := (blk_cell BK220.out 2).trans rfl; have hfz25_0 := blk_frozen BK220.out 0; have hfz25_1 := blk_frozen BK220.out 1; have hfz25_2 := blk_frozen BK220.out 2) | ((with_reducible refine gate_callee (f := 13) rfl ?_); refine goesL_ (some 36) rfl rfl Try.func13 (by kernel_rfl) rfl #[.agg #[.int .i64 a0_0, .int .i64 a0_1, .slice A0_2 l0_2.length c0_2], .int .i64 t223, .string a1, .int .i64 a3] rfl (by (try simp only [List.map_toArray, List.map_cons, List.map_nil]); first | done | rfl | (simp only [List.length_drop, List.length_take]; rfl)) ?_; (with_reducible refine (node_Insert.calls a0_0 a0_1 _ _ l0_2 t223 a1 a3 t224 t225 t226 t229 _ ?side1 ?side2 A21.out).mono ?_); (case side1 => repeat (first | exact (Kd.C_below HR0_2.out HB.out) | (with_reducible refine Kd.C_alloc ?_ _) | (with_reducible refine Kd.C_drewN ?_ _) | (with_reducible refine Kd.C_drew ?_))); (case side2 => exact HC0_2.out); rintro e w26 ⟨v227, rfl, ho0, hb⟩; refine ⟨_, rfl, ?_⟩; have n0_ := Aside0.mk (Kd.R_lower ho0 (below_size (by repeat (first | (with_reducible first | exact HB.out | apply below_alloc | apply pw_below_drewN | apply below_drew1 | refine below_set ?_ GE220.out) | exact HB.out)))); have n1_ := Aside0.mk (blk_below (g := gb220) (o := .cells #[.int .i64 a0_0, .int .i64 a0_1, .slice A0_2 l0_2.length c0_2] 24 (0, 0)) (by (with_reducible repeat (first | refine blk_drewN ?_ _ | refine blk_drew ?_ | refine blk_alloc ?_ _)); exact BK220.out) hb); have n2_ := Aside0.mk (below_step (by repeat (first | (with_reducible first | exact HB.out | apply below_alloc | apply pw_below_drewN | apply below_drew1 | refine below_set ?_ GE220.out) | exact HB.out)) hb); clear BK220; clear HB; have HO228 := n0_; have BK220 := n1_; have HB := n2_; clear n0_ n1_ n2_; (try clear hb); (try clear hb2); (try clear hk); (try clear hi); (try clear ho0)) | ((with_reducible refine gate_dst (N := 10) rfl ?_); (try (refine gate_guard (by rfl) ?_; dsimp only)); refine box_event ?hg (N := 10) ?hd (cs := #[.int .i64 0, .int .i64 0, .slice none 0 0]) (t := 24) ?hr ?_; (case hd => rfl); (case hg => rfl); (case hr => first | (go_simp; done) | (go_simp; rfl)); intro gb230 hg w27 hbox hb; have n0_ := Aside0.mk (Kd.R_below (by (with_reducible repeat (first | apply Kd.R_alloc | apply Kd.R_drewN | apply Kd.R_drew)); exact HO228.out) hb); have n1_ := Aside0.mk (blk_below (g := gb220) (o := .cells #[.int .i64 a0_0, .int .i64 a0_1, .slice A0_2 l0_2.length c0_2] 24 (0, 0)) (by (with_reducible repeat (first | refine blk_drewN ?_ _ | refine blk_drew ?_ | refine blk_alloc ?_ _)); exact BK220.out) hb); have n2_ := Aside0.mk (below_step (by repeat (first | (with_reducible first | exact HB.out | apply below_alloc | apply pw_below_drewN | apply below_drew1 | refine below_set ?_ GE220.out) | exact HB.out)) hb); have n3_ := Aside0.mk (hbox); have n4_ := Aside0.mk ((by rw [hg]; exact (below_size (by repeat (first | (with_reducible first | exact HB.out | apply below_alloc | apply pw_below_drewN | apply below_drew1 | refine below_set ?_ GE220.out) | exact HB.out))) : w.heap.size ≤ gb230)); have n5_ := Aside0.mk ((by rw [hg]; exact (below_size (by repeat (first | (with_reducible first | exact HB.out | apply below_alloc | apply pw_below_drewN | apply below_drew1 | refine below_set ?_ GE220.out) | exact HB.out))) : w.heap.size ≤ gb230)); have n6_ := Aside0.mk ((by rw [hg]; exact Nat.ne_of_lt (blk_lt (g := gb220) (o := .cells #[.int .i64 a0_0, .int .i64 a0_1, .slice A0_2 l0_2.length c0_2] 24 (0, 0)) (by (with_reducible repeat (first | refine blk_drewN ?_ _ | refine blk_drew ?_ | refine blk_alloc ?_ _)); exact BK220.out)) : gb220 ≠ gb230)); have n7_ := Aside0.mk ((by rw [hg]; exact Nat.ne_of_gt (blk_lt (g := gb220) (o := .cells #[.int .i64 a0_0, .int .i64 a0_1, .slice A0_2 l0_2.length c0_2] 24 (0, 0)) (by (with_reducible repeat (first | refine blk_drewN ?_ _ | refine blk_drew ?_ | refine blk_alloc ?_ _)); exact BK220.out)) : gb230 ≠ gb220)); clear HO228; clear BK220; clear HB; have HO228 := n0_; have BK220 := n1_; have HB := n2_; have BK230 := n3_; have GW230 := n4_; have GE230 := n5_; have NB220_230 := n6_; have NB230_220 := n7_; clear n0_ n1_ n2_ n3_ n4_ n5_ n6_ n7_; clear hb hbox hg; have hnb28 := NB230_220.out; have hnc28 := NB220_230.out; have hcz29_0 : w27.cell? ⟨gb230, 0, none⟩ = some (.int .i64 0) := (blk_cell BK230.out 0).trans rfl; have hcz29_1 : w27.cell? ⟨gb230, 1, none⟩ = some (.int .i64 0) := (blk_cell BK230.out 1).trans rfl; have hcz29_2 : w27.cell? ⟨gb230, 2, none⟩ = some (.slice none 0 0) := (blk_cell BK230.out 2).trans rfl; have hfz29_0 := blk_frozen BK230.out 0; have hfz29_1 := blk_frozen BK230.out 1; have hfz29_2 := blk_frozen BK230.out 2; obtain ⟨Ao30, co30, eo30⟩ := Kd.R_slice HO228.out; subst eo30))
          (try simp only [Act.put, List.setIfInBounds_toArray, List.set_cons_zero, List.set_cons_succ])
          go_cut [47] (fun v47 wc => ∃ (kq : Nat) (x47_21 : Bool), v47 = .bool x47_21 ∧ Aside0 (dasdlaw20_NodeInserts.j1 kq a1 a2 a3 t223 t229 x47_21 a0_0 a0_1 l0_2 t224 t225 t226 = some r) ∧ Aside0 (kq ≤ kj6) ∧ Aside0 (Kd.R k32 32 wc w.heap.size (fun _ => True) (.slice Ao30 t226.length co30) t226) ∧ Aside0 (wc.heap[gb220]? = some (.cells #[.int .i64 a0_0, .int .i64 a0_1, (.slice A0_2 l0_2.length c0_2)] 24 (0, 0))) ∧ Aside0 (wc.heap[gb230]? = some (.cells #[.int .i64 t224, .int .i64 t225, (.slice Ao30 t226.length co30)] 24 (0, 0))) ∧ Aside0 (Below w.heap.size w wc))
          case first =>
            have H := HC22.out
            clear HC22
            by_cases c31 : t223 < 0
            · rw [if_pos c31] at H
              have c31b0 : decide (t223 < 0) = true := decide_eq_true c31
              clear c31
              (first | rw [c31b0] | (simp only [i64_w, i32_w]; rw [c31b0]) | skip)
              have H' := Aside0.mk H
              clear H
              go_wp2
              go_meet
              case rel => exact ⟨_, (true), (by first | rfl | (simp; done) | (simp [*]; done)), H', ⟨by have := HJ6.out; first | omega | exact Nat.le_refl _⟩, ⟨by (with_reducible repeat (first | apply Kd.R_alloc | apply Kd.R_drewN | apply Kd.R_drew)); exact Kd.R_mono (Kd.R_far (p := ⟨gb230, 2, none⟩) (Kd.R_far (p := ⟨gb230, 1, none⟩) (Kd.R_far (p := ⟨gb230, 0, none⟩) (Kd.R_types HO228.out BK230.out (by decide)) (fun _ hk => hk.2) (.int .i64 t224)) (fun _ hk => hk.2) (.int .i64 t225)) (fun _ hk => hk.2) (.slice Ao30 t226.length co30)) (fun _ hk => trivial)⟩, ⟨by (with_reducible repeat (first | refine blk_drewN ?_ _ | refine blk_drew ?_ | refine blk_alloc ?_ _)); refine blk_far ?_ NB220_230.out _; (with_reducible repeat (first | refine blk_drewN ?_ _ | refine blk_drew ?_ | refine blk_alloc ?_ _)); refine blk_far ?_ NB220_230.out _; (with_reducible repeat (first | refine blk_drewN ?_ _ | refine blk_drew ?_ | refine blk_alloc ?_ _)); refine blk_far ?_ NB220_230.out _; (with_reducible repeat (first | refine blk_drewN ?_ _ | refine blk_drew ?_ | refine blk_alloc ?_ _)); exact BK220.out⟩, ⟨by (with_reducible repeat (first | refine blk_drewN ?_ _ | refine blk_drew ?_ | refine blk_alloc ?_ _)); refine blk_put (cs := #[.int .i64 t224, .int .i64 t225, .slice none 0 0]) ?_ 2 _ rfl; (with_reducible repeat (first | refine blk_drewN ?_ _ | refine blk_drew ?_ | refine blk_alloc ?_ _)); refine blk_put (cs := #[.int .i64 t224, .int .i64 0, .slice none 0 0]) ?_ 1 _ rfl; (with_reducible repeat (first | refine blk_drewN ?_ _ | refine blk_drew ?_ | refine blk_alloc ?_ _)); refine blk_put (cs := #[.int .i64 0, .int .i64 0, .slice none 0 0]) ?_ 0 _ rfl; (with_reducible repeat (first | refine blk_drewN ?_ _ | refine blk_drew ?_ | refine blk_alloc ?_ _)); exact BK230.out⟩, ⟨by repeat (first | (with_reducible first | exact HB.out | apply below_alloc | apply pw_below_drewN | apply below_drew1 | refine below_set ?_ GE220.out | refine below_set ?_ GE230.out) | exact HB.out)⟩⟩
            · rw [if_neg c31] at H
              have c31b0 : decide (t223 < 0) = false := decide_eq_false c31
              clear c31
              (first | rw [c31b0] | (simp only [i64_w, i32_w]; rw [c31b0]) | skip)
              have H' := Aside0.mk H
              clear H
              have hnb32 := NB220_230.out
              have hnc32 := NB230_220.out
              have hcz33_0 : w27.cell? ⟨gb220, 0, none⟩ = some (.int .i64 a0_0) := (blk_cell BK220.out 0).trans rfl
              have hcz33_1 : w27.cell? ⟨gb220, 1, none⟩ = some (.int .i64 a0_1) := (blk_cell BK220.out 1).trans rfl
              have hcz33_2 : w27.cell? ⟨gb220, 2, none⟩ = some (.slice A0_2 l0_2.length c0_2) := (blk_cell BK220.out 2).trans rfl
              have hfz33_0 := blk_frozen BK220.out 0
              have hfz33_1 := blk_frozen BK220.out 1
              have hfz33_2 := blk_frozen BK220.out 2
              go_wp2
              go_meet
              case rel => exact ⟨_, (decide (t223 ≥ (l0_2.length : Int))), (by first | rfl | (simp; done) | (simp [*]; done)), H', ⟨by have := HJ6.out; first | omega | exact Nat.le_refl _⟩, ⟨by (with_reducible repeat (first | apply Kd.R_alloc | apply Kd.R_drewN | apply Kd.R_drew)); exact Kd.R_mono (Kd.R_far (p := ⟨gb230, 2, none⟩) (Kd.R_far (p := ⟨gb230, 1, none⟩) (Kd.R_far (p := ⟨gb230, 0, none⟩) (Kd.R_types HO228.out BK230.out (by decide)) (fun _ hk => hk.2) (.int .i64 t224)) (fun _ hk => hk.2) (.int .i64 t225)) (fun _ hk => hk.2) (.slice Ao30 t226.length co30)) (fun _ hk => trivial)⟩, ⟨by (with_reducible repeat (first | refine blk_drewN ?_ _ | refine blk_drew ?_ | refine blk_alloc ?_ _)); refine blk_far ?_ NB220_230.out _; (with_reducible repeat (first | refine blk_drewN ?_ _ | refine blk_drew ?_ | refine blk_alloc ?_ _)); refine blk_far ?_ NB220_230.out _; (with_reducible repeat (first | refine blk_drewN ?_ _ | refine blk_drew ?_ | refine blk_alloc ?_ _)); refine blk_far ?_ NB220_230.out _; (with_reducible repeat (first | refine blk_drewN ?_ _ | refine blk_drew ?_ | refine blk_alloc ?_ _)); exact BK220.out⟩, ⟨by (with_reducible repeat (first | refine blk_drewN ?_ _ | refine blk_drew ?_ | refine blk_alloc ?_ _)); refine blk_put (cs := #[.int .i64 t224, .int .i64 t225, .slice none 0 0]) ?_ 2 _ rfl; (with_reducible repeat (first | refine blk_drewN ?_ _ | refine blk_drew ?_ | refine blk_alloc ?_ _)); refine blk_put (cs := #[.int .i64 t224, .int .i64 0, .slice none 0 0]) ?_ 1 _ rfl; (with_reducible repeat (first | refine blk_drewN ?_ _ | refine blk_drew ?_ | refine blk_alloc ?_ _)); refine blk_put (cs := #[.int .i64 0, .int .i64 0, .slice none 0 0]) ?_ 0 _ rfl; (with_reducible repeat (first | refine blk_drewN ?_ _ | refine blk_drew ?_ | refine blk_alloc ?_ _)); exact BK230.out⟩, ⟨by repeat (first | (with_reducible first | exact HB.out | apply below_alloc | apply pw_below_drewN | apply below_drew1 | refine below_set ?_ GE220.out | refine below_set ?_ GE230.out) | exact HB.out)⟩⟩
          case rest =>
            clear HC22
            try clear c1
            try clear c2
            try clear p2
            try clear c3
            try clear c6
            try clear c10
            try clear c11
            try clear c12
            try clear c12b0
            try clear c12b1
            try clear c13
            try clear c19
            try clear c28
            try clear c31
            try clear c31b0
            try clear c32
            try clear hcz13_0
            try clear hcz13_1
            try clear hcz13_2
            try clear hcz15_0
            try clear hcz15_1
            try clear hcz15_2
            try clear hcz17_0
            try clear hcz17_1
            try clear hcz17_2
            try clear hcz23_0
            try clear hcz23_1
            try clear hcz23_2
            try clear hcz25_0
            try clear hcz25_1
            try clear hcz25_2
            try clear hcz29_0
            try clear hcz29_1
            try clear hcz29_2
            try clear hcz33_0
            try clear hcz33_1
            try clear hcz33_2
            try clear hfz13_0
            try clear hfz13_1
            try clear hfz13_2
            try clear hfz15_0
            try clear hfz15_1
            try clear hfz15_2
            try clear hfz17_0
            try clear hfz17_1
            try clear hfz17_2
            try clear hfz23_0
            try clear hfz23_1
            try clear hfz23_2
            try clear hfz25_0
            try clear hfz25_1
            try clear hfz25_2
            try clear hfz29_0
            try clear hfz29_1
            try clear hfz29_2
            try clear hfz33_0
            try clear hfz33_1
            try clear hfz33_2
            try clear p2
            obtain ⟨kq, x47_21, rfl, HA, HJ21, HO_231002, BK220, BK230, HB⟩ := hcut
            cases kq with
            | zero => exact absurd HA.out (by simp [dasdlaw20_NodeInserts.j1])
            | succ kj21 =>
              have H := HA.out
              clear HA
              simp only [dasdlaw20_NodeInserts.j1] at H
              by_cases c34 : x47_21 = true
              · subst c34
                have H1 : (some false) = some r := by rw [if_pos rfl] at H; exact H
                clear H
                have H := H1
                clear H1
                obtain rfl := Option.some.inj H
                go_wp2
                go_ret
                exact ⟨by first | rfl | (simp [errW_none, errW_some] <;> rfl) | (simp [*, errW_none, errW_some] <;> rfl), by repeat (first | (with_reducible first | exact HB.out | apply below_alloc | apply pw_below_drewN | apply below_drew1 | refine below_set ?_ GE220.out | refine below_set ?_ GE230.out) | exact HB.out)⟩
              · replace c34 := Bool.eq_false_iff.mpr c34
                subst c34
                have H1 : (if t229 = 0 then ((dasdlaw20_page.f a0_0 a0_1 l0_2 a2).bind fun t232 => ((node_Find.f a0_0 a0_1 l0_2 a2).bind fun t233 => (if t233 = t223 then (dasdlaw20_NodeInserts.j2 kj21 a2 a3 t232 (!(Op.bytesLess a2.toList a1.toList)) a0_0 a0_1 l0_2 t224 t225 t226) else (dasdlaw20_NodeInserts.j2 kj21 a2 a3 t232 false a0_0 a0_1 l0_2 t224 t225 t226)))) else (if (t226.length : Int) = 0 then (if a1.toList = ([] : List UInt8) then (some true) else (if (a1.size : Int) > 32 then (some true) else (if a3 < 1 then (some true) else (if a3 > 16777216 then (some true) else (if (l0_2.length : Int) = 120 then (some true) else (if t223 > 0 then (if 0 ≤ (wrap64 (t223 - 1)) then (if (wrap64 (t223 - 1)) < (l0_2.length : Int) then (some (((rd_T32 l0_2 (wrap64 (t223 - 1))).f0).toList == a1.toList)) else (none)) else (none)) else (some false))))))) else (some false))) = some r := by rw [if_neg (show ¬ (false = true) by decide)] at H; exact H
                clear H
                have H := H1
                clear H1
                by_cases c35 : t229 = 0
                · rw [if_pos c35] at H
                  have c35b0 : (t229 == 0) = true := beq_iff_eq.mpr c35
                  have c35b1 : (t229 != 0) = false := bne_eq_false_iff_eq.mpr c35
                  clear c35
                  replace H := Option.bind_eq_some_iff.mp H
                  obtain ⟨t232, A360, H⟩ := H
                  replace H : ((node_Find.f a0_0 a0_1 l0_2 a2).bind fun t233 => (if t233 = t223 then (dasdlaw20_NodeInserts.j2 kj21 a2 a3 t232 (!(Op.bytesLess a2.toList a1.toList)) a0_0 a0_1 l0_2 t224 t225 t226) else (dasdlaw20_NodeInserts.j2 kj21 a2 a3 t232 false a0_0 a0_1 l0_2 t224 t225 t226))) = some r := H
                  have A36 := Aside0.mk A360
                  clear A360
                  have HC37 := Aside0.mk H
                  clear H
                  have hnb38 := NB220_230.out
                  have hnc38 := NB230_220.out
                  have hcz39_0 : wc.cell? ⟨gb220, 0, none⟩ = some (.int .i64 a0_0) := (blk_cell BK220.out 0).trans rfl
                  have hcz39_1 : wc.cell? ⟨gb220, 1, none⟩ = some (.int .i64 a0_1) := (blk_cell BK220.out 1).trans rfl
                  have hcz39_2 : wc.cell? ⟨gb220, 2, none⟩ = some (.slice A0_2 l0_2.length c0_2) := (blk_cell BK220.out 2).trans rfl
                  have hfz39_0 := blk_frozen BK220.out 0
                  have hfz39_1 := blk_frozen BK220.out 1
                  have hfz39_2 := blk_frozen BK220.out 2
                  go_upto_region 12 with (first | ((with_reducible refine gate_callee (f := 14) rfl ?_); refine goesL_ (some 94) rfl rfl Try.func14 (by kernel_rfl) rfl #[.agg #[.int .i64 a0_0, .int .i64 a0_1, .slice A0_2 l0_2.length c0_2], .string a2] rfl (by (try simp only [List.map_toArray, List.map_cons, List.map_nil]); first | done | rfl | (simp only [List.length_drop, List.length_take]; rfl)) ?_; (with_reducible refine (dasdlaw20_page.calls a0_0 a0_1 _ _ l0_2 a2 t232 _ ?side1 ?side2 A36.out).mono ?_); (case side1 => repeat (first | exact (Kd.C_below HR0_2.out HB.out) | (with_reducible refine Kd.C_alloc ?_ _) | (with_reducible refine Kd.C_drewN ?_ _) | (with_reducible refine Kd.C_drew ?_))); (case side2 => exact HC0_2.out); rintro e w40 ⟨rfl, hb⟩; refine ⟨_, rfl, ?_⟩; have n0_ := Aside0.mk (Kd.R_below (by (with_reducible repeat (first | apply Kd.R_alloc | apply Kd.R_drewN | apply Kd.R_drew)); exact HO_231002.out) hb); have n1_ := Aside0.mk (blk_below (g := gb220) (o := .cells #[.int .i64 a0_0, .int .i64 a0_1, .slice A0_2 l0_2.length c0_2] 24 (0, 0)) (by (with_reducible repeat (first | refine blk_drewN ?_ _ | refine blk_drew ?_ | refine blk_alloc ?_ _)); exact BK220.out) hb); have n2_ := Aside0.mk (blk_below (g := gb230) (o := .cells #[.int .i64 t224, .int .i64 t225, .slice Ao30 t226.length co30] 24 (0, 0)) (by (with_reducible repeat (first | refine blk_drewN ?_ _ | refine blk_drew ?_ | refine blk_alloc ?_ _)); exact BK230.out) hb); have n3_ := Aside0.mk (below_step (by repeat (first | (with_reducible first | exact HB.out | apply below_alloc | apply pw_below_drewN | apply below_drew1 | refine below_set ?_ GE220.out | refine below_set ?_ GE230.out) | exact HB.out)) hb); clear HO_231002; clear BK220; clear BK230; clear HB; have HO_231002 := n0_; have BK220 := n1_; have BK230 := n2_; have HB := n3_; clear n0_ n1_ n2_ n3_; (try clear hb); (try clear hb2); (try clear hk); (try clear hi)))
                  (try simp only [Act.put, List.setIfInBounds_toArray, List.set_cons_zero, List.set_cons_succ])
                  go_cut [104] (fun v104 wc => ∃ (kq : Nat) (x104_36 : Bool), v104 = .bool x104_36 ∧ Aside0 (dasdlaw20_NodeInserts.j2 kq a2 a3 t232 x104_36 a0_0 a0_1 l0_2 t224 t225 t226 = some r) ∧ Aside0 (kq ≤ kj21) ∧ Aside0 (Kd.R k32 32 wc w.heap.size (fun _ => True) (.slice Ao30 t226.length co30) t226) ∧ Aside0 (wc.heap[gb220]? = some (.cells #[.int .i64 a0_0, .int .i64 a0_1, (.slice A0_2 l0_2.length c0_2)] 24 (0, 0))) ∧ Aside0 (wc.heap[gb230]? = some (.cells #[.int .i64 t224, .int .i64 t225, (.slice Ao30 t226.length co30)] 24 (0, 0))) ∧ Aside0 (Below w.heap.size w wc))
                  case first =>
                    have H := HC37.out
                    clear HC37
                    replace H := Option.bind_eq_some_iff.mp H
                    obtain ⟨t233, A410, H⟩ := H
                    replace H : (if t233 = t223 then (dasdlaw20_NodeInserts.j2 kj21 a2 a3 t232 (!(Op.bytesLess a2.toList a1.toList)) a0_0 a0_1 l0_2 t224 t225 t226) else (dasdlaw20_NodeInserts.j2 kj21 a2 a3 t232 false a0_0 a0_1 l0_2 t224 t225 t226)) = some r := H
                    have A41 := Aside0.mk A410
                    clear A410
                    by_cases c42 : t233 = t223
                    · rw [if_pos c42] at H
                      have c42b0 : (t233 == t223) = true := beq_iff_eq.mpr c42
                      have c42b1 : (t233 != t223) = false := bne_eq_false_iff_eq.mpr c42
                      clear c42
                      (first | rw [c42b0] | (simp only [i64_w, i32_w]; rw [c42b0]) | skip)
                      have H' := Aside0.mk H
                      clear H
                      have hnb43 := NB220_230.out
                      have hnc43 := NB230_220.out
                      have hcz44_0 : w40.cell? ⟨gb220, 0, none⟩ = some (.int .i64 a0_0) := (blk_cell BK220.out 0).trans rfl
                      have hcz44_1 : w40.cell? ⟨gb220, 1, none⟩ = some (.int .i64 a0_1) := (blk_cell BK220.out 1).trans rfl
                      have hcz44_2 : w40.cell? ⟨gb220, 2, none⟩ = some (.slice A0_2 l0_2.length c0_2) := (blk_cell BK220.out 2).trans rfl
                      have hfz44_0 := blk_frozen BK220.out 0
                      have hfz44_1 := blk_frozen BK220.out 1
                      have hfz44_2 := blk_frozen BK220.out 2
                      go_wp2_with (first | ((with_reducible refine gate_callee (f := 12) rfl ?_); refine goesL_ (some 97) rfl rfl Try.func12 (by kernel_rfl) rfl #[.agg #[.int .i64 a0_0, .int .i64 a0_1, .slice A0_2 l0_2.length c0_2], .string a2] rfl (by (try simp only [List.map_toArray, List.map_cons, List.map_nil]); first | done | rfl | (simp only [List.length_drop, List.length_take]; rfl)) ?_; (with_reducible refine (node_Find.calls a0_0 a0_1 _ _ l0_2 a2 t233 _ ?side1 ?side2 A41.out).mono ?_); (case side1 => repeat (first | exact (Kd.C_below HR0_2.out HB.out) | (with_reducible refine Kd.C_alloc ?_ _) | (with_reducible refine Kd.C_drewN ?_ _) | (with_reducible refine Kd.C_drew ?_))); (case side2 => exact HC0_2.out); rintro e w45 ⟨rfl, hb⟩; refine ⟨_, rfl, ?_⟩; have n0_ := Aside0.mk (Kd.R_below (by (with_reducible repeat (first | apply Kd.R_alloc | apply Kd.R_drewN | apply Kd.R_drew)); exact HO_231002.out) hb); have n1_ := Aside0.mk (blk_below (g := gb220) (o := .cells #[.int .i64 a0_0, .int .i64 a0_1, .slice A0_2 l0_2.length c0_2] 24 (0, 0)) (by (with_reducible repeat (first | refine blk_drewN ?_ _ | refine blk_drew ?_ | refine blk_alloc ?_ _)); exact BK220.out) hb); have n2_ := Aside0.mk (blk_below (g := gb230) (o := .cells #[.int .i64 t224, .int .i64 t225, .slice Ao30 t226.length co30] 24 (0, 0)) (by (with_reducible repeat (first | refine blk_drewN ?_ _ | refine blk_drew ?_ | refine blk_alloc ?_ _)); exact BK230.out) hb); have n3_ := Aside0.mk (below_step (by repeat (first | (with_reducible first | exact HB.out | apply below_alloc | apply pw_below_drewN | apply below_drew1 | refine below_set ?_ GE220.out | refine below_set ?_ GE230.out) | exact HB.out)) hb); clear HO_231002; clear BK220; clear BK230; clear HB; have HO_231002 := n0_; have BK220 := n1_; have BK230 := n2_; have HB := n3_; clear n0_ n1_ n2_ n3_; (try clear hb); (try clear hb2); (try clear hk); (try clear hi)))
                      go_meet
                      case rel => exact ⟨_, (!(Op.bytesLess a2.toList a1.toList)), (by first | rfl | (simp; done) | (simp [*]; done)), H', ⟨by have := HJ6.out; have := HJ21.out; first | omega | exact Nat.le_refl _⟩, ⟨by (with_reducible repeat (first | apply Kd.R_alloc | apply Kd.R_drewN | apply Kd.R_drew)); exact HO_231002.out⟩, ⟨by (with_reducible repeat (first | refine blk_drewN ?_ _ | refine blk_drew ?_ | refine blk_alloc ?_ _)); exact BK220.out⟩, ⟨by (with_reducible repeat (first | refine blk_drewN ?_ _ | refine blk_drew ?_ | refine blk_alloc ?_ _)); exact BK230.out⟩, ⟨by repeat (first | (with_reducible first | exact HB.out | apply below_alloc | apply pw_below_drewN | apply below_drew1 | refine below_set ?_ GE220.out | refine below_set ?_ GE230.out) | exact HB.out)⟩⟩
                    · rw [if_neg c42] at H
                      have c42b0 : (t233 == t223) = false := beq_eq_false_iff_ne.mpr c42
                      have c42b1 : (t233 != t223) = true := bne_iff_ne.mpr c42
                      (first | rw [c42b0] | (simp only [i64_w, i32_w]; rw [c42b0]) | skip)
                      have H' := Aside0.mk H
                      clear H
                      have hnb46 := NB220_230.out
                      have hnc46 := NB230_220.out
                      have hcz47_0 : w40.cell? ⟨gb220, 0, none⟩ = some (.int .i64 a0_0) := (blk_cell BK220.out 0).trans rfl
                      have hcz47_1 : w40.cell? ⟨gb220, 1, none⟩ = some (.int .i64 a0_1) := (blk_cell BK220.out 1).trans rfl
                      have hcz47_2 : w40.cell? ⟨gb220, 2, none⟩ = some (.slice A0_2 l0_2.length c0_2) := (blk_cell BK220.out 2).trans rfl
                      have hfz47_0 := blk_frozen BK220.out 0
                      have hfz47_1 := blk_frozen BK220.out 1
                      have hfz47_2 := blk_frozen BK220.out 2
                      go_wp2_with (first | ((with_reducible refine gate_callee (f := 12) rfl ?_); refine goesL_ (some 97) rfl rfl Try.func12 (by kernel_rfl) rfl #[.agg #[.int .i64 a0_0, .int .i64 a0_1, .slice A0_2 l0_2.length c0_2], .string a2] rfl (by (try simp only [List.map_toArray, List.map_cons, List.map_nil]); first | done | rfl | (simp only [List.length_drop, List.length_take]; rfl)) ?_; (with_reducible refine (node_Find.calls a0_0 a0_1 _ _ l0_2 a2 t233 _ ?side1 ?side2 A41.out).mono ?_); (case side1 => repeat (first | exact (Kd.C_below HR0_2.out HB.out) | (with_reducible refine Kd.C_alloc ?_ _) | (with_reducible refine Kd.C_drewN ?_ _) | (with_reducible refine Kd.C_drew ?_))); (case side2 => exact HC0_2.out); rintro e w48 ⟨rfl, hb⟩; refine ⟨_, rfl, ?_⟩; have n0_ := Aside0.mk (Kd.R_below (by (with_reducible repeat (first | apply Kd.R_alloc | apply Kd.R_drewN | apply Kd.R_drew)); exact HO_231002.out) hb); have n1_ := Aside0.mk (blk_below (g := gb220) (o := .cells #[.int .i64 a0_0, .int .i64 a0_1, .slice A0_2 l0_2.length c0_2] 24 (0, 0)) (by (with_reducible repeat (first | refine blk_drewN ?_ _ | refine blk_drew ?_ | refine blk_alloc ?_ _)); exact BK220.out) hb); have n2_ := Aside0.mk (blk_below (g := gb230) (o := .cells #[.int .i64 t224, .int .i64 t225, .slice Ao30 t226.length co30] 24 (0, 0)) (by (with_reducible repeat (first | refine blk_drewN ?_ _ | refine blk_drew ?_ | refine blk_alloc ?_ _)); exact BK230.out) hb); have n3_ := Aside0.mk (below_step (by repeat (first | (with_reducible first | exact HB.out | apply below_alloc | apply pw_below_drewN | apply below_drew1 | refine below_set ?_ GE220.out | refine below_set ?_ GE230.out) | exact HB.out)) hb); clear HO_231002; clear BK220; clear BK230; clear HB; have HO_231002 := n0_; have BK220 := n1_; have BK230 := n2_; have HB := n3_; clear n0_ n1_ n2_ n3_; (try clear hb); (try clear hb2); (try clear hk); (try clear hi)))
                      go_meet
                      case rel => exact ⟨_, (false), (by first | rfl | (simp; done) | (simp [*]; done)), H', ⟨by have := HJ6.out; have := HJ21.out; first | omega | exact Nat.le_refl _⟩, ⟨by (with_reducible repeat (first | apply Kd.R_alloc | apply Kd.R_drewN | apply Kd.R_drew)); exact HO_231002.out⟩, ⟨by (with_reducible repeat (first | refine blk_drewN ?_ _ | refine blk_drew ?_ | refine blk_alloc ?_ _)); exact BK220.out⟩, ⟨by (with_reducible repeat (first | refine blk_drewN ?_ _ | refine blk_drew ?_ | refine blk_alloc ?_ _)); exact BK230.out⟩, ⟨by repeat (first | (with_reducible first | exact HB.out | apply below_alloc | apply pw_below_drewN | apply below_drew1 | refine below_set ?_ GE220.out | refine below_set ?_ GE230.out) | exact HB.out)⟩⟩
                  case rest =>
                    clear HC37
                    try clear c1
                    try clear c2
                    try clear p2
                    try clear c3
                    try clear c4
                    try clear c6
                    try clear p6
                    try clear c10
                    try clear c11
                    try clear c12
                    try clear c12b0
                    try clear c12b1
                    try clear c13
                    try clear c14
                    try clear c19
                    try clear c28
                    try clear c31
                    try clear c31b0
                    try clear c32
                    try clear c34
                    try clear c35
                    try clear c35b0
                    try clear c35b1
                    try clear c38
                    try clear c42
                    try clear c42b0
                    try clear c42b1
                    try clear c43
                    try clear c46
                    try clear hcz13_0
                    try clear hcz13_1
                    try clear hcz13_2
                    try clear hcz15_0
                    try clear hcz15_1
                    try clear hcz15_2
                    try clear hcz17_0
                    try clear hcz17_1
                    try clear hcz17_2
                    try clear hcz23_0
                    try clear hcz23_1
                    try clear hcz23_2
                    try clear hcz25_0
                    try clear hcz25_1
                    try clear hcz25_2
                    try clear hcz29_0
                    try clear hcz29_1
                    try clear hcz29_2
                    try clear hcz33_0
                    try clear hcz33_1
                    try clear hcz33_2
                    try clear hcz39_0
                    try clear hcz39_1
                    try clear hcz39_2
                    try clear hcz44_0
                    try clear hcz44_1
                    try clear hcz44_2
                    try clear hcz47_0
                    try clear hcz47_1
                    try clear hcz47_2
                    try clear hfz13_0
                    try clear hfz13_1
                    try clear hfz13_2
                    try clear hfz15_0
                    try clear hfz15_1
                    try clear hfz15_2
                    try clear hfz17_0
                    try clear hfz17_1
                    try clear hfz17_2
                    try clear hfz23_0
                    try clear hfz23_1
                    try clear hfz23_2
                    try clear hfz25_0
                    try clear hfz25_1
                    try clear hfz25_2
                    try clear hfz29_0
                    try clear hfz29_1
                    try clear hfz29_2
                    try clear hfz33_0
                    try clear hfz33_1
                    try clear hfz33_2
                    try clear hfz39_0
                    try clear hfz39_1
                    try clear hfz39_2
                    try clear hfz44_0
                    try clear hfz44_1
                    try clear hfz44_2
                    try clear hfz47_0
                    try clear hfz47_1
                    try clear hfz47_2
                    try clear p2
                    obtain ⟨kq, x104_36, rfl, HA, HJ36, HO_231002, BK220, BK230, HB⟩ := hcut
                    cases kq with
                    | zero => exact absurd HA.out (by simp [dasdlaw20_NodeInserts.j2])
                    | succ kj36 =>
                      have H := HA.out
                      clear HA
                      simp only [dasdlaw20_NodeInserts.j2] at H
                      by_cases c49 : x104_36 = true
                      · subst c49
                        have H1 : ((dasdref20_IsNode.f kj36 t224 t225 t226).bind fun t234 => (if t234 = true then (if (t226.length : Int) = (wrap64 ((l0_2.length : Int) + 1)) then ((dasdlaw20_page.f t224 t225 t226 a2).bind fun t235 => (some (t235 == a3))) else (some false)) else (some false))) = some r := by rw [if_pos rfl] at H; exact H
                        clear H
                        have H := H1
                        clear H1
                        replace H := Option.bind_eq_some_iff.mp H
                        obtain ⟨t234, A500, H⟩ := H
                        replace H : (if t234 = true then (if (t226.length : Int) = (wrap64 ((l0_2.length : Int) + 1)) then ((dasdlaw20_page.f t224 t225 t226 a2).bind fun t235 => (some (t235 == a3))) else (some false)) else (some false)) = some r := H
                        have A50 := Aside0.mk A500
                        clear A500
                        by_cases c51 : t234 = true
                        · subst c51
                          have H1 : (if (t226.length : Int) = (wrap64 ((l0_2.length : Int) + 1)) then ((dasdlaw20_page.f t224 t225 t226 a2).bind fun t235 => (some (t235 == a3))) else (some false)) = some r := by rw [if_pos rfl] at H; exact H
                          clear H
                          have H := H1
                          clear H1
                          by_cases c52 : (t226.length : Int) = (wrap64 ((l0_2.length : Int) + 1))
                          · rw [if_pos c52] at H
                            have c52b0 : ((t226.length : Int) == (wrap64 ((l0_2.length : Int) + 1))) = true := beq_iff_eq.mpr c52
                            have c52b1 : ((t226.length : Int) != (wrap64 ((l0_2.length : Int) + 1))) = false := bne_eq_false_iff_eq.mpr c52
                            clear c52
                            replace H := Option.bind_eq_some_iff.mp H
                            obtain ⟨t235, A530, H⟩ := H
                            replace H : (some (t235 == a3)) = some r := H
                            have A53 := Aside0.mk A530
                            clear A530
                            obtain rfl := Option.some.inj H
                            have hnb54 := NB230_220.out
                            have hnc54 := NB220_230.out
                            have hcz55_0 : wc.cell? ⟨gb230, 0, none⟩ = some (.int .i64 t224) := (blk_cell BK230.out 0).trans rfl
                            have hcz55_1 : wc.cell? ⟨gb230, 1, none⟩ = some (.int .i64 t225) := (blk_cell BK230.out 1).trans rfl
                            have hcz55_2 : wc.cell? ⟨gb230, 2, none⟩ = some (.slice Ao30 t226.length co30) := (blk_cell BK230.out 2).trans rfl
                            have hfz55_0 := blk_frozen BK230.out 0
                            have hfz55_1 := blk_frozen BK230.out 1
                            have hfz55_2 := blk_frozen BK230.out 2
                            go_wp2_with (first | ((with_reducible refine gate_callee (f := 11) rfl ?_); refine goesL_ (some 107) rfl rfl Try.func11 (by kernel_rfl) rfl #[.agg #[.int .i64 t224, .int .i64 t225, .slice Ao30 t226.length co30]] rfl (by (try simp only [List.map_toArray, List.map_cons, List.map_nil]); first | done | rfl | (simp only [List.length_drop, List.length_take]; rfl)) ?_; (with_reducible refine (dasdref20_IsNode.calls kj36 t224 t225 _ _ t226 true _ ?side1 ?side2 A50.out).mono ?_); (case side1 => repeat (first | exact (Kd.R_reads' HO_231002.out).2.2 | (with_reducible refine Kd.C_alloc ?_ _) | (with_reducible refine Kd.C_drewN ?_ _) | (with_reducible refine Kd.C_drew ?_))); (case side2 => exact (Kd.R_reads' HO_231002.out).2.1); rintro e w56 ⟨rfl, hb⟩; refine ⟨_, rfl, ?_⟩; have n0_ := Aside0.mk (Kd.R_below (by (with_reducible repeat (first | apply Kd.R_alloc | apply Kd.R_drewN | apply Kd.R_drew)); exact HO_231002.out) hb); have n1_ := Aside0.mk (blk_below (g := gb220) (o := .cells #[.int .i64 a0_0, .int .i64 a0_1, .slice A0_2 l0_2.length c0_2] 24 (0, 0)) (by (with_reducible repeat (first | refine blk_drewN ?_ _ | refine blk_drew ?_ | refine blk_alloc ?_ _)); exact BK220.out) hb); have n2_ := Aside0.mk (blk_below (g := gb230) (o := .cells #[.int .i64 t224, .int .i64 t225, .slice Ao30 t226.length co30] 24 (0, 0)) (by (with_reducible repeat (first | refine blk_drewN ?_ _ | refine blk_drew ?_ | refine blk_alloc ?_ _)); exact BK230.out) hb); have n3_ := Aside0.mk (below_step (by repeat (first | (with_reducible first | exact HB.out | apply below_alloc | apply pw_below_drewN | apply below_drew1 | refine below_set ?_ GE220.out | refine below_set ?_ GE230.out) | exact HB.out)) hb); clear HO_231002; clear BK220; clear BK230; clear HB; have HO_231002 := n0_; have BK220 := n1_; have BK230 := n2_; have HB := n3_; clear n0_ n1_ n2_ n3_; (try clear hb); (try clear hb2); (try clear hk); (try clear hi); have hcz57_0 : w56.cell? ⟨gb230, 0, none⟩ = some (.int .i64 t224) := (blk_cell BK230.out 0).trans rfl; have hcz57_1 : w56.cell? ⟨gb230, 1, none⟩ = some (.int .i64 t225) := (blk_cell BK230.out 1).trans rfl; have hcz57_2 : w56.cell? ⟨gb230, 2, none⟩ = some (.slice Ao30 t226.length co30) := (blk_cell BK230.out 2).trans rfl; have hfz57_0 := blk_frozen BK230.out 0; have hfz57_1 := blk_frozen BK230.out 1; have hfz57_2 := blk_frozen BK230.out 2; have hcz58_0 : w56.cell? ⟨gb220, 0, none⟩ = some (.int .i64 a0_0) := (blk_cell BK220.out 0).trans rfl; have hcz58_1 : w56.cell? ⟨gb220, 1, none⟩ = some (.int .i64 a0_1) := (blk_cell BK220.out 1).trans rfl; have hcz58_2 : w56.cell? ⟨gb220, 2, none⟩ = some (.slice A0_2 l0_2.length c0_2) := (blk_cell BK220.out 2).trans rfl; have hfz58_0 := blk_frozen BK220.out 0; have hfz58_1 := blk_frozen BK220.out 1; have hfz58_2 := blk_frozen BK220.out 2) | (go_at_call 14; (with_reducible refine (dasdlaw20_page.calls t224 t225 _ _ t226 a2 t235 _ ?side1 ?side2 A53.out).mono ?_); (case side1 => repeat (first | exact (Kd.R_reads' HO_231002.out).2.2 | (with_reducible refine Kd.C_alloc ?_ _) | (with_reducible refine Kd.C_drewN ?_ _) | (with_reducible refine Kd.C_drew ?_))); (case side2 => exact (Kd.R_reads' HO_231002.out).2.1); rintro e w59 ⟨rfl, hb⟩; have n0_ := Aside0.mk (Kd.R_below (by (with_reducible repeat (first | apply Kd.R_alloc | apply Kd.R_drewN | apply Kd.R_drew)); exact HO_231002.out) hb); have n1_ := Aside0.mk (blk_below (g := gb220) (o := .cells #[.int .i64 a0_0, .int .i64 a0_1, .slice A0_2 l0_2.length c0_2] 24 (0, 0)) (by (with_reducible repeat (first | refine blk_drewN ?_ _ | refine blk_drew ?_ | refine blk_alloc ?_ _)); exact BK220.out) hb); have n2_ := Aside0.mk (blk_below (g := gb230) (o := .cells #[.int .i64 t224, .int .i64 t225, .slice Ao30 t226.length co30] 24 (0, 0)) (by (with_reducible repeat (first | refine blk_drewN ?_ _ | refine blk_drew ?_ | refine blk_alloc ?_ _)); exact BK230.out) hb); have n3_ := Aside0.mk (below_step (by repeat (first | (with_reducible first | exact HB.out | apply below_alloc | apply pw_below_drewN | apply below_drew1 | refine below_set ?_ GE220.out | refine below_set ?_ GE230.out) | exact HB.out)) hb); clear HO_231002; clear BK220; clear BK230; clear HB; have HO_231002 := n0_; have BK220 := n1_; have BK230 := n2_; have HB := n3_; clear n0_ n1_ n2_ n3_; (try clear hb); (try clear hb2); (try clear hk); (try clear hi)))
                            go_ret
                            exact ⟨by first | rfl | (simp [errW_none, errW_some] <;> rfl) | (simp [*, errW_none, errW_some] <;> rfl), by repeat (first | (with_reducible first | exact HB.out | apply below_alloc | apply pw_below_drewN | apply below_drew1 | refine below_set ?_ GE220.out | refine below_set ?_ GE230.out) | exact HB.out)⟩
                          · rw [if_neg c52] at H
                            have c52b0 : ((t226.length : Int) == (wrap64 ((l0_2.length : Int) + 1))) = false := beq_eq_false_iff_ne.mpr c52
                            have c52b1 : ((t226.length : Int) != (wrap64 ((l0_2.length : Int) + 1))) = true := bne_iff_ne.mpr c52
                            obtain rfl := Option.some.inj H
                            have hnb60 := NB230_220.out
                            have hnc60 := NB220_230.out
                            have hcz61_0 : wc.cell? ⟨gb230, 0, none⟩ = some (.int .i64 t224) := (blk_cell BK230.out 0).trans rfl
                            have hcz61_1 : wc.cell? ⟨gb230, 1, none⟩ = some (.int .i64 t225) := (blk_cell BK230.out 1).trans rfl
                            have hcz61_2 : wc.cell? ⟨gb230, 2, none⟩ = some (.slice Ao30 t226.length co30) := (blk_cell BK230.out 2).trans rfl
                            have hfz61_0 := blk_frozen BK230.out 0
                            have hfz61_1 := blk_frozen BK230.out 1
                            have hfz61_2 := blk_frozen BK230.out 2
                            go_wp2_with (first | ((with_reducible refine gate_callee (f := 11) rfl ?_); refine goesL_ (some 107) rfl rfl Try.func11 (by kernel_rfl) rfl #[.agg #[.int .i64 t224, .int .i64 t225, .slice Ao30 t226.length co30]] rfl (by (try simp only [List.map_toArray, List.map_cons, List.map_nil]); first | done | rfl | (simp only [List.length_drop, List.length_take]; rfl)) ?_; (with_reducible refine (dasdref20_IsNode.calls kj36 t224 t225 _ _ t226 true _ ?side1 ?side2 A50.out).mono ?_); (case side1 => repeat (first | exact (Kd.R_reads' HO_231002.out).2.2 | (with_reducible refine Kd.C_alloc ?_ _) | (with_reducible refine Kd.C_drewN ?_ _) | (with_reducible refine Kd.C_drew ?_))); (case side2 => exact (Kd.R_reads' HO_231002.out).2.1); rintro e w62 ⟨rfl, hb⟩; refine ⟨_, rfl, ?_⟩; have n0_ := Aside0.mk (Kd.R_below (by (with_reducible repeat (first | apply Kd.R_alloc | apply Kd.R_drewN | apply Kd.R_drew)); exact HO_231002.out) hb); have n1_ := Aside0.mk (blk_below (g := gb220) (o := .cells #[.int .i64 a0_0, .int .i64 a0_1, .slice A0_2 l0_2.length c0_2] 24 (0, 0)) (by (with_reducible repeat (first | refine blk_drewN ?_ _ | refine blk_drew ?_ | refine blk_alloc ?_ _)); exact BK220.out) hb); have n2_ := Aside0.mk (blk_below (g := gb230) (o := .cells #[.int .i64 t224, .int .i64 t225, .slice Ao30 t226.length co30] 24 (0, 0)) (by (with_reducible repeat (first | refine blk_drewN ?_ _ | refine blk_drew ?_ | refine blk_alloc ?_ _)); exact BK230.out) hb); have n3_ := Aside0.mk (below_step (by repeat (first | (with_reducible first | exact HB.out | apply below_alloc | apply pw_below_drewN | apply below_drew1 | refine below_set ?_ GE220.out | refine below_set ?_ GE230.out) | exact HB.out)) hb); clear HO_231002; clear BK220; clear BK230; clear HB; have HO_231002 := n0_; have BK220 := n1_; have BK230 := n2_; have HB := n3_; clear n0_ n1_ n2_ n3_; (try clear hb); (try clear hb2); (try clear hk); (try clear hi); have hcz63_0 : w62.cell? ⟨gb230, 0, none⟩ = some (.int .i64 t224) := (blk_cell BK230.out 0).trans rfl; have hcz63_1 : w62.cell? ⟨gb230, 1, none⟩ = some (.int .i64 t225) := (blk_cell BK230.out 1).trans rfl; have hcz63_2 : w62.cell? ⟨gb230, 2, none⟩ = some (.slice Ao30 t226.length co30) := (blk_cell BK230.out 2).trans rfl; have hfz63_0 := blk_frozen BK230.out 0; have hfz63_1 := blk_frozen BK230.out 1; have hfz63_2 := blk_frozen BK230.out 2; have hcz64_0 : w62.cell? ⟨gb220, 0, none⟩ = some (.int .i64 a0_0) := (blk_cell BK220.out 0).trans rfl; have hcz64_1 : w62.cell? ⟨gb220, 1, none⟩ = some (.int .i64 a0_1) := (blk_cell BK220.out 1).trans rfl; have hcz64_2 : w62.cell? ⟨gb220, 2, none⟩ = some (.slice A0_2 l0_2.length c0_2) := (blk_cell BK220.out 2).trans rfl; have hfz64_0 := blk_frozen BK220.out 0; have hfz64_1 := blk_frozen BK220.out 1; have hfz64_2 := blk_frozen BK220.out 2))
                            go_ret
                            exact ⟨by first | rfl | (simp [errW_none, errW_some] <;> rfl) | (simp [*, errW_none, errW_some] <;> rfl), by repeat (first | (with_reducible first | exact HB.out | apply below_alloc | apply pw_below_drewN | apply below_drew1 | refine below_set ?_ GE220.out | refine below_set ?_ GE230.out) | exact HB.out)⟩
                        · replace c51 := Bool.eq_false_iff.mpr c51
                          subst c51
                          have H1 : (some false) = some r := by rw [if_neg (show ¬ (false = true) by decide)] at H; exact H
                          clear H
                          have H := H1
                          clear H1
                          obtain rfl := Option.some.inj H
                          have hnb65 := NB230_220.out
                          have hnc65 := NB220_230.out
                          have hcz66_0 : wc.cell? ⟨gb230, 0, none⟩ = some (.int .i64 t224) := (blk_cell BK230.out 0).trans rfl
                          have hcz66_1 : wc.cell? ⟨gb230, 1, none⟩ = some (.int .i64 t225) := (blk_cell BK230.out 1).trans rfl
                          have hcz66_2 : wc.cell? ⟨gb230, 2, none⟩ = some (.slice Ao30 t226.length co30) := (blk_cell BK230.out 2).trans rfl
                          have hfz66_0 := blk_frozen BK230.out 0
                          have hfz66_1 := blk_frozen BK230.out 1
                          have hfz66_2 := blk_frozen BK230.out 2
                          go_wp2_with (first | ((with_reducible refine gate_callee (f := 11) rfl ?_); refine goesL_ (some 107) rfl rfl Try.func11 (by kernel_rfl) rfl #[.agg #[.int .i64 t224, .int .i64 t225, .slice Ao30 t226.length co30]] rfl (by (try simp only [List.map_toArray, List.map_cons, List.map_nil]); first | done | rfl | (simp only [List.length_drop, List.length_take]; rfl)) ?_; (with_reducible refine (dasdref20_IsNode.calls kj36 t224 t225 _ _ t226 false _ ?side1 ?side2 A50.out).mono ?_); (case side1 => repeat (first | exact (Kd.R_reads' HO_231002.out).2.2 | (with_reducible refine Kd.C_alloc ?_ _) | (with_reducible refine Kd.C_drewN ?_ _) | (with_reducible refine Kd.C_drew ?_))); (case side2 => exact (Kd.R_reads' HO_231002.out).2.1); rintro e w67 ⟨rfl, hb⟩; refine ⟨_, rfl, ?_⟩; have n0_ := Aside0.mk (Kd.R_below (by (with_reducible repeat (first | apply Kd.R_alloc | apply Kd.R_drewN | apply Kd.R_drew)); exact HO_231002.out) hb); have n1_ := Aside0.mk (blk_below (g := gb220) (o := .cells #[.int .i64 a0_0, .int .i64 a0_1, .slice A0_2 l0_2.length c0_2] 24 (0, 0)) (by (with_reducible repeat (first | refine blk_drewN ?_ _ | refine blk_drew ?_ | refine blk_alloc ?_ _)); exact BK220.out) hb); have n2_ := Aside0.mk (blk_below (g := gb230) (o := .cells #[.int .i64 t224, .int .i64 t225, .slice Ao30 t226.length co30] 24 (0, 0)) (by (with_reducible repeat (first | refine blk_drewN ?_ _ | refine blk_drew ?_ | refine blk_alloc ?_ _)); exact BK230.out) hb); have n3_ := Aside0.mk (below_step (by repeat (first | (with_reducible first | exact HB.out | apply below_alloc | apply pw_below_drewN | apply below_drew1 | refine below_set ?_ GE220.out | refine below_set ?_ GE230.out) | exact HB.out)) hb); clear HO_231002; clear BK220; clear BK230; clear HB; have HO_231002 := n0_; have BK220 := n1_; have BK230 := n2_; have HB := n3_; clear n0_ n1_ n2_ n3_; (try clear hb); (try clear hb2); (try clear hk); (try clear hi)))
                          go_ret
                          exact ⟨by first | rfl | (simp [errW_none, errW_some] <;> rfl) | (simp [*, errW_none, errW_some] <;> rfl), by repeat (first | (with_reducible first | exact HB.out | apply below_alloc | apply pw_below_drewN | apply below_drew1 | refine below_set ?_ GE220.out | refine below_set ?_ GE230.out) | exact HB.out)⟩
                      · replace c49 := Bool.eq_false_iff.mpr c49
                        subst c49
                        have H1 : ((dasdref20_IsNode.f kj36 t224 t225 t226).bind fun t236 => (if t236 = true then (if (t226.length : Int) = (wrap64 ((l0_2.length : Int) + 1)) then ((dasdlaw20_page.f t224 t225 t226 a2).bind fun t237 => (some (t237 == t232))) else (some false)) else (some false))) = some r := by rw [if_neg (show ¬ (false = true) by decide)] at H; exact H
                        clear H
                        have H := H1
                        clear H1
                        replace H := Option.bind_eq_some_iff.mp H
                        obtain ⟨t236, A680, H⟩ := H
                        replace H : (if t236 = true then (if (t226.length : Int) = (wrap64 ((l0_2.length : Int) + 1)) then ((dasdlaw20_page.f t224 t225 t226 a2).bind fun t237 => (some (t237 == t232))) else (some false)) else (some false)) = some r := H
                        have A68 := Aside0.mk A680
                        clear A680
                        by_cases c69 : t236 = true
                        · subst c69
                          have H1 : (if (t226.length : Int) = (wrap64 ((l0_2.length : Int) + 1)) then ((dasdlaw20_page.f t224 t225 t226 a2).bind fun t237 => (some (t237 == t232))) else (some false)) = some r := by rw [if_pos rfl] at H; exact H
                          clear H
                          have H := H1
                          clear H1
                          by_cases c70 : (t226.length : Int) = (wrap64 ((l0_2.length : Int) + 1))
                          · rw [if_pos c70] at H
                            have c70b0 : ((t226.length : Int) == (wrap64 ((l0_2.length : Int) + 1))) = true := beq_iff_eq.mpr c70
                            have c70b1 : ((t226.length : Int) != (wrap64 ((l0_2.length : Int) + 1))) = false := bne_eq_false_iff_eq.mpr c70
                            clear c70
                            replace H := Option.bind_eq_some_iff.mp H
                            obtain ⟨t237, A710, H⟩ := H
                            replace H : (some (t237 == t232)) = some r := H
                            have A71 := Aside0.mk A710
                            clear A710
                            obtain rfl := Option.some.inj H
                            have hnb72 := NB230_220.out
                            have hnc72 := NB220_230.out
                            have hcz73_0 : wc.cell? ⟨gb230, 0, none⟩ = some (.int .i64 t224) := (blk_cell BK230.out 0).trans rfl
                            have hcz73_1 : wc.cell? ⟨gb230, 1, none⟩ = some (.int .i64 t225) := (blk_cell BK230.out 1).trans rfl
                            have hcz73_2 : wc.cell? ⟨gb230, 2, none⟩ = some (.slice Ao30 t226.length co30) := (blk_cell BK230.out 2).trans rfl
                            have hfz73_0 := blk_frozen BK230.out 0
                            have hfz73_1 := blk_frozen BK230.out 1
                            have hfz73_2 := blk_frozen BK230.out 2
                            go_wp2_with (first | ((with_reducible refine gate_callee (f := 11) rfl ?_); refine goesL_ (some 107) rfl rfl Try.func11 (by kernel_rfl) rfl #[.agg #[.int .i64 t224, .int .i64 t225, .slice Ao30 t226.length co30]] rfl (by (try simp only [List.map_toArray, List.map_cons, List.map_nil]); first | done | rfl | (simp only [List.length_drop, List.length_take]; rfl)) ?_; (with_reducible refine (dasdref20_IsNode.calls kj36 t224 t225 _ _ t226 true _ ?side1 ?side2 A68.out).mono ?_); (case side1 => repeat (first | exact (Kd.R_reads' HO_231002.out).2.2 | (with_reducible refine Kd.C_alloc ?_ _) | (with_reducible refine Kd.C_drewN ?_ _) | (with_reducible refine Kd.C_drew ?_))); (case side2 => exact (Kd.R_reads' HO_231002.out).2.1); rintro e w74 ⟨rfl, hb⟩; refine ⟨_, rfl, ?_⟩; have n0_ := Aside0.mk (Kd.R_below (by (with_reducible repeat (first | apply Kd.R_alloc | apply Kd.R_drewN | apply Kd.R_drew)); exact HO_231002.out) hb); have n1_ := Aside0.mk (blk_below (g := gb220) (o := .cells #[.int .i64 a0_0, .int .i64 a0_1, .slice A0_2 l0_2.length c0_2] 24 (0, 0)) (by (with_reducible repeat (first | refine blk_drewN ?_ _ | refine blk_drew ?_ | refine blk_alloc ?_ _)); exact BK220.out) hb); have n2_ := Aside0.mk (blk_below (g := gb230) (o := .cells #[.int .i64 t224, .int .i64 t225, .slice Ao30 t226.length co30] 24 (0, 0)) (by (with_reducible repeat (first | refine blk_drewN ?_ _ | refine blk_drew ?_ | refine blk_alloc ?_ _)); exact BK230.out) hb); have n3_ := Aside0.mk (below_step (by repeat (first | (with_reducible first | exact HB.out | apply below_alloc | apply pw_below_drewN | apply below_drew1 | refine below_set ?_ GE220.out | refine below_set ?_ GE230.out) | exact HB.out)) hb); clear HO_231002; clear BK220; clear BK230; clear HB; have HO_231002 := n0_; have BK220 := n1_; have BK230 := n2_; have HB := n3_; clear n0_ n1_ n2_ n3_; (try clear hb); (try clear hb2); (try clear hk); (try clear hi); have hcz75_0 : w74.cell? ⟨gb230, 0, none⟩ = some (.int .i64 t224) := (blk_cell BK230.out 0).trans rfl; have hcz75_1 : w74.cell? ⟨gb230, 1, none⟩ = some (.int .i64 t225) := (blk_cell BK230.out 1).trans rfl; have hcz75_2 : w74.cell? ⟨gb230, 2, none⟩ = some (.slice Ao30 t226.length co30) := (blk_cell BK230.out 2).trans rfl; have hfz75_0 := blk_frozen BK230.out 0; have hfz75_1 := blk_frozen BK230.out 1; have hfz75_2 := blk_frozen BK230.out 2; have hcz76_0 : w74.cell? ⟨gb220, 0, none⟩ = some (.int .i64 a0_0) := (blk_cell BK220.out 0).trans rfl; have hcz76_1 : w74.cell? ⟨gb220, 1, none⟩ = some (.int .i64 a0_1) := (blk_cell BK220.out 1).trans rfl; have hcz76_2 : w74.cell? ⟨gb220, 2, none⟩ = some (.slice A0_2 l0_2.length c0_2) := (blk_cell BK220.out 2).trans rfl; have hfz76_0 := blk_frozen BK220.out 0; have hfz76_1 := blk_frozen BK220.out 1; have hfz76_2 := blk_frozen BK220.out 2) | (go_at_call 14; (with_reducible refine (dasdlaw20_page.calls t224 t225 _ _ t226 a2 t237 _ ?side1 ?side2 A71.out).mono ?_); (case side1 => repeat (first | exact (Kd.R_reads' HO_231002.out).2.2 | (with_reducible refine Kd.C_alloc ?_ _) | (with_reducible refine Kd.C_drewN ?_ _) | (with_reducible refine Kd.C_drew ?_))); (case side2 => exact (Kd.R_reads' HO_231002.out).2.1); rintro e w77 ⟨rfl, hb⟩; have n0_ := Aside0.mk (Kd.R_below (by (with_reducible repeat (first | apply Kd.R_alloc | apply Kd.R_drewN | apply Kd.R_drew)); exact HO_231002.out) hb); have n1_ := Aside0.mk (blk_below (g := gb220) (o := .cells #[.int .i64 a0_0, .int .i64 a0_1, .slice A0_2 l0_2.length c0_2] 24 (0, 0)) (by (with_reducible repeat (first | refine blk_drewN ?_ _ | refine blk_drew ?_ | refine blk_alloc ?_ _)); exact BK220.out) hb); have n2_ := Aside0.mk (blk_below (g := gb230) (o := .cells #[.int .i64 t224, .int .i64 t225, .slice Ao30 t226.length co30] 24 (0, 0)) (by (with_reducible repeat (first | refine blk_drewN ?_ _ | refine blk_drew ?_ | refine blk_alloc ?_ _)); exact BK230.out) hb); have n3_ := Aside0.mk (below_step (by repeat (first | (with_reducible first | exact HB.out | apply below_alloc | apply pw_below_drewN | apply below_drew1 | refine below_set ?_ GE220.out | refine below_set ?_ GE230.out) | exact HB.out)) hb); clear HO_231002; clear BK220; clear BK230; clear HB; have HO_231002 := n0_; have BK220 := n1_; have BK230 := n2_; have HB := n3_; clear n0_ n1_ n2_ n3_; (try clear hb); (try clear hb2); (try clear hk); (try clear hi)))
                            go_ret
                            exact ⟨by first | rfl | (simp [errW_none, errW_some] <;> rfl) | (simp [*, errW_none, errW_some] <;> rfl), by repeat (first | (with_reducible first | exact HB.out | apply below_alloc | apply pw_below_drewN | apply below_drew1 | refine below_set ?_ GE220.out | refine below_set ?_ GE230.out) | exact HB.out)⟩
                          · rw [if_neg c70] at H
                            have c70b0 : ((t226.length : Int) == (wrap64 ((l0_2.length : Int) + 1))) = false := beq_eq_false_iff_ne.mpr c70
                            have c70b1 : ((t226.length : Int) != (wrap64 ((l0_2.length : Int) + 1))) = true := bne_iff_ne.mpr c70
                            obtain rfl := Option.some.inj H
                            have hnb78 := NB230_220.out
                            have hnc78 := NB220_230.out
                            have hcz79_0 : wc.cell? ⟨gb230, 0, none⟩ = some (.int .i64 t224) := (blk_cell BK230.out 0).trans rfl
                            have hcz79_1 : wc.cell? ⟨gb230, 1, none⟩ = some (.int .i64 t225) := (blk_cell BK230.out 1).trans rfl
                            have hcz79_2 : wc.cell? ⟨gb230, 2, none⟩ = some (.slice Ao30 t226.length co30) := (blk_cell BK230.out 2).trans rfl
                            have hfz79_0 := blk_frozen BK230.out 0
                            have hfz79_1 := blk_frozen BK230.out 1
                            have hfz79_2 := blk_frozen BK230.out 2
                            go_wp2_with (first | ((with_reducible refine gate_callee (f := 11) rfl ?_); refine goesL_ (some 107) rfl rfl Try.func11 (by kernel_rfl) rfl #[.agg #[.int .i64 t224, .int .i64 t225, .slice Ao30 t226.length co30]] rfl (by (try simp only [List.map_toArray, List.map_cons, List.map_nil]); first | done | rfl | (simp only [List.length_drop, List.length_take]; rfl)) ?_; (with_reducible refine (dasdref20_IsNode.calls kj36 t224 t225 _ _ t226 true _ ?side1 ?side2 A68.out).mono ?_); (case side1 => repeat (first | exact (Kd.R_reads' HO_231002.out).2.2 | (with_reducible refine Kd.C_alloc ?_ _) | (with_reducible refine Kd.C_drewN ?_ _) | (with_reducible refine Kd.C_drew ?_))); (case side2 => exact (Kd.R_reads' HO_231002.out).2.1); rintro e w80 ⟨rfl, hb⟩; refine ⟨_, rfl, ?_⟩; have n0_ := Aside0.mk (Kd.R_below (by (with_reducible repeat (first | apply Kd.R_alloc | apply Kd.R_drewN | apply Kd.R_drew)); exact HO_231002.out) hb); have n1_ := Aside0.mk (blk_below (g := gb220) (o := .cells #[.int .i64 a0_0, .int .i64 a0_1, .slice A0_2 l0_2.length c0_2] 24 (0, 0)) (by (with_reducible repeat (first | refine blk_drewN ?_ _ | refine blk_drew ?_ | refine blk_alloc ?_ _)); exact BK220.out) hb); have n2_ := Aside0.mk (blk_below (g := gb230) (o := .cells #[.int .i64 t224, .int .i64 t225, .slice Ao30 t226.length co30] 24 (0, 0)) (by (with_reducible repeat (first | refine blk_drewN ?_ _ | refine blk_drew ?_ | refine blk_alloc ?_ _)); exact BK230.out) hb); have n3_ := Aside0.mk (below_step (by repeat (first | (with_reducible first | exact HB.out | apply below_alloc | apply pw_below_drewN | apply below_drew1 | refine below_set ?_ GE220.out | refine below_set ?_ GE230.out) | exact HB.out)) hb); clear HO_231002; clear BK220; clear BK230; clear HB; have HO_231002 := n0_; have BK220 := n1_; have BK230 := n2_; have HB := n3_; clear n0_ n1_ n2_ n3_; (try clear hb); (try clear hb2); (try clear hk); (try clear hi); have hcz81_0 : w80.cell? ⟨gb230, 0, none⟩ = some (.int .i64 t224) := (blk_cell BK230.out 0).trans rfl; have hcz81_1 : w80.cell? ⟨gb230, 1, none⟩ = some (.int .i64 t225) := (blk_cell BK230.out 1).trans rfl; have hcz81_2 : w80.cell? ⟨gb230, 2, none⟩ = some (.slice Ao30 t226.length co30) := (blk_cell BK230.out 2).trans rfl; have hfz81_0 := blk_frozen BK230.out 0; have hfz81_1 := blk_frozen BK230.out 1; have hfz81_2 := blk_frozen BK230.out 2; have hcz82_0 : w80.cell? ⟨gb220, 0, none⟩ = some (.int .i64 a0_0) := (blk_cell BK220.out 0).trans rfl; have hcz82_1 : w80.cell? ⟨gb220, 1, none⟩ = some (.int .i64 a0_1) := (blk_cell BK220.out 1).trans rfl; have hcz82_2 : w80.cell? ⟨gb220, 2, none⟩ = some (.slice A0_2 l0_2.length c0_2) := (blk_cell BK220.out 2).trans rfl; have hfz82_0 := blk_frozen BK220.out 0; have hfz82_1 := blk_frozen BK220.out 1; have hfz82_2 := blk_frozen BK220.out 2))
                            go_ret
                            exact ⟨by first | rfl | (simp [errW_none, errW_some] <;> rfl) | (simp [*, errW_none, errW_some] <;> rfl), by repeat (first | (with_reducible first | exact HB.out | apply below_alloc | apply pw_below_drewN | apply below_drew1 | refine below_set ?_ GE220.out | refine below_set ?_ GE230.out) | exact HB.out)⟩
                        · replace c69 := Bool.eq_false_iff.mpr c69
                          subst c69
                          have H1 : (some false) = some r := by rw [if_neg (show ¬ (false = true) by decide)] at H; exact H
                          clear H
                          have H := H1
                          clear H1
                          obtain rfl := Option.some.inj H
                          have hnb83 := NB230_220.out
                          have hnc83 := NB220_230.out
                          have hcz84_0 : wc.cell? ⟨gb230, 0, none⟩ = some (.int .i64 t224) := (blk_cell BK230.out 0).trans rfl
                          have hcz84_1 : wc.cell? ⟨gb230, 1, none⟩ = some (.int .i64 t225) := (blk_cell BK230.out 1).trans rfl
                          have hcz84_2 : wc.cell? ⟨gb230, 2, none⟩ = some (.slice Ao30 t226.length co30) := (blk_cell BK230.out 2).trans rfl
                          have hfz84_0 := blk_frozen BK230.out 0
                          have hfz84_1 := blk_frozen BK230.out 1
                          have hfz84_2 := blk_frozen BK230.out 2
                          go_wp2_with (first | ((with_reducible refine gate_callee (f := 11) rfl ?_); refine goesL_ (some 107) rfl rfl Try.func11 (by kernel_rfl) rfl #[.agg #[.int .i64 t224, .int .i64 t225, .slice Ao30 t226.length co30]] rfl (by (try simp only [List.map_toArray, List.map_cons, List.map_nil]); first | done | rfl | (simp only [List.length_drop, List.length_take]; rfl)) ?_; (with_reducible refine (dasdref20_IsNode.calls kj36 t224 t225 _ _ t226 false _ ?side1 ?side2 A68.out).mono ?_); (case side1 => repeat (first | exact (Kd.R_reads' HO_231002.out).2.2 | (with_reducible refine Kd.C_alloc ?_ _) | (with_reducible refine Kd.C_drewN ?_ _) | (with_reducible refine Kd.C_drew ?_))); (case side2 => exact (Kd.R_reads' HO_231002.out).2.1); rintro e w85 ⟨rfl, hb⟩; refine ⟨_, rfl, ?_⟩; have n0_ := Aside0.mk (Kd.R_below (by (with_reducible repeat (first | apply Kd.R_alloc | apply Kd.R_drewN | apply Kd.R_drew)); exact HO_231002.out) hb); have n1_ := Aside0.mk (blk_below (g := gb220) (o := .cells #[.int .i64 a0_0, .int .i64 a0_1, .slice A0_2 l0_2.length c0_2] 24 (0, 0)) (by (with_reducible repeat (first | refine blk_drewN ?_ _ | refine blk_drew ?_ | refine blk_alloc ?_ _)); exact BK220.out) hb); have n2_ := Aside0.mk (blk_below (g := gb230) (o := .cells #[.int .i64 t224, .int .i64 t225, .slice Ao30 t226.length co30] 24 (0, 0)) (by (with_reducible repeat (first | refine blk_drewN ?_ _ | refine blk_drew ?_ | refine blk_alloc ?_ _)); exact BK230.out) hb); have n3_ := Aside0.mk (below_step (by repeat (first | (with_reducible first | exact HB.out | apply below_alloc | apply pw_below_drewN | apply below_drew1 | refine below_set ?_ GE220.out | refine below_set ?_ GE230.out) | exact HB.out)) hb); clear HO_231002; clear BK220; clear BK230; clear HB; have HO_231002 := n0_; have BK220 := n1_; have BK230 := n2_; have HB := n3_; clear n0_ n1_ n2_ n3_; (try clear hb); (try clear hb2); (try clear hk); (try clear hi)))
                          go_ret
                          exact ⟨by first | rfl | (simp [errW_none, errW_some] <;> rfl) | (simp [*, errW_none, errW_some] <;> rfl), by repeat (first | (with_reducible first | exact HB.out | apply below_alloc | apply pw_below_drewN | apply below_drew1 | refine below_set ?_ GE220.out | refine below_set ?_ GE230.out) | exact HB.out)⟩
                · rw [if_neg c35] at H
                  have c35b0 : (t229 == 0) = false := beq_eq_false_iff_ne.mpr c35
                  have c35b1 : (t229 != 0) = true := bne_iff_ne.mpr c35
                  by_cases c86 : (t226.length : Int) = 0
                  · rw [if_pos c86] at H
                    have c86b0 : ((t226.length : Int) == 0) = true := beq_iff_eq.mpr c86
                    have c86b1 : ((t226.length : Int) != 0) = false := bne_eq_false_iff_eq.mpr c86
                    clear c86
                    by_cases c87 : a1.toList = ([] : List UInt8)
                    · rw [if_pos c87] at H
                      have c87b0 : (a1.toList == ([] : List UInt8)) = true := beq_iff_eq.mpr c87
                      have c87b1 : (a1.toList != ([] : List UInt8)) = false := bne_eq_false_iff_eq.mpr c87
                      clear c87
                      obtain rfl := Option.some.inj H
                      have hnb88 := NB230_220.out
                      have hnc88 := NB220_230.out
                      have hcz89_0 : wc.cell? ⟨gb230, 0, none⟩ = some (.int .i64 t224) := (blk_cell BK230.out 0).trans rfl
                      have hcz89_1 : wc.cell? ⟨gb230, 1, none⟩ = some (.int .i64 t225) := (blk_cell BK230.out 1).trans rfl
                      have hcz89_2 : wc.cell? ⟨gb230, 2, none⟩ = some (.slice Ao30 t226.length co30) := (blk_cell BK230.out 2).trans rfl
                      have hfz89_0 := blk_frozen BK230.out 0
                      have hfz89_1 := blk_frozen BK230.out 1
                      have hfz89_2 := blk_frozen BK230.out 2
                      go_wp2
                      go_ret
                      exact ⟨by first | rfl | (simp [errW_none, errW_some] <;> rfl) | (simp [*, errW_none, errW_some] <;> rfl), by repeat (first | (with_reducible first | exact HB.out | apply below_alloc | apply pw_below_drewN | apply below_drew1 | refine below_set ?_ GE220.out | refine below_set ?_ GE230.out) | exact HB.out)⟩
                    · rw [if_neg c87] at H
                      have c87b0 : (a1.toList == ([] : List UInt8)) = false := beq_eq_false_iff_ne.mpr c87
                      have c87b1 : (a1.toList != ([] : List UInt8)) = true := bne_iff_ne.mpr c87
                      by_cases c90 : (a1.size : Int) > 32
                      · rw [if_pos c90] at H
                        have c90b0 : decide (32 < (a1.size : Int)) = true := decide_eq_true c90
                        have c90b1 : decide (32 < a1.size) = true := decide_eq_true (by omega)
                        clear c90
                        obtain rfl := Option.some.inj H
                        have hnb91 := NB230_220.out
                        have hnc91 := NB220_230.out
                        have hcz92_0 : wc.cell? ⟨gb230, 0, none⟩ = some (.int .i64 t224) := (blk_cell BK230.out 0).trans rfl
                        have hcz92_1 : wc.cell? ⟨gb230, 1, none⟩ = some (.int .i64 t225) := (blk_cell BK230.out 1).trans rfl
                        have hcz92_2 : wc.cell? ⟨gb230, 2, none⟩ = some (.slice Ao30 t226.length co30) := (blk_cell BK230.out 2).trans rfl
                        have hfz92_0 := blk_frozen BK230.out 0
                        have hfz92_1 := blk_frozen BK230.out 1
                        have hfz92_2 := blk_frozen BK230.out 2
                        go_wp2
                        go_ret
                        exact ⟨by first | rfl | (simp [errW_none, errW_some] <;> rfl) | (simp [*, errW_none, errW_some] <;> rfl), by repeat (first | (with_reducible first | exact HB.out | apply below_alloc | apply pw_below_drewN | apply below_drew1 | refine below_set ?_ GE220.out | refine below_set ?_ GE230.out) | exact HB.out)⟩
                      · rw [if_neg c90] at H
                        have c90b0 : decide (32 < (a1.size : Int)) = false := decide_eq_false c90
                        have c90b1 : decide (32 < a1.size) = false := decide_eq_false (by omega)
                        clear c90
                        by_cases c93 : a3 < 1
                        · rw [if_pos c93] at H
                          have c93b0 : decide (a3 < 1) = true := decide_eq_true c93
                          clear c93
                          obtain rfl := Option.some.inj H
                          have hnb94 := NB230_220.out
                          have hnc94 := NB220_230.out
                          have hcz95_0 : wc.cell? ⟨gb230, 0, none⟩ = some (.int .i64 t224) := (blk_cell BK230.out 0).trans rfl
                          have hcz95_1 : wc.cell? ⟨gb230, 1, none⟩ = some (.int .i64 t225) := (blk_cell BK230.out 1).trans rfl
                          have hcz95_2 : wc.cell? ⟨gb230, 2, none⟩ = some (.slice Ao30 t226.length co30) := (blk_cell BK230.out 2).trans rfl
                          have hfz95_0 := blk_frozen BK230.out 0
                          have hfz95_1 := blk_frozen BK230.out 1
                          have hfz95_2 := blk_frozen BK230.out 2
                          go_wp2
                          go_ret
                          exact ⟨by first | rfl | (simp [errW_none, errW_some] <;> rfl) | (simp [*, errW_none, errW_some] <;> rfl), by repeat (first | (with_reducible first | exact HB.out | apply below_alloc | apply pw_below_drewN | apply below_drew1 | refine below_set ?_ GE220.out | refine below_set ?_ GE230.out) | exact HB.out)⟩
                        · rw [if_neg c93] at H
                          have c93b0 : decide (a3 < 1) = false := decide_eq_false c93
                          clear c93
                          by_cases c96 : a3 > 16777216
                          · rw [if_pos c96] at H
                            have c96b0 : decide (16777216 < a3) = true := decide_eq_true c96
                            clear c96
                            obtain rfl := Option.some.inj H
                            have hnb97 := NB230_220.out
                            have hnc97 := NB220_230.out
                            have hcz98_0 : wc.cell? ⟨gb230, 0, none⟩ = some (.int .i64 t224) := (blk_cell BK230.out 0).trans rfl
                            have hcz98_1 : wc.cell? ⟨gb230, 1, none⟩ = some (.int .i64 t225) := (blk_cell BK230.out 1).trans rfl
                            have hcz98_2 : wc.cell? ⟨gb230, 2, none⟩ = some (.slice Ao30 t226.length co30) := (blk_cell BK230.out 2).trans rfl
                            have hfz98_0 := blk_frozen BK230.out 0
                            have hfz98_1 := blk_frozen BK230.out 1
                            have hfz98_2 := blk_frozen BK230.out 2
                            go_wp2
                            go_ret
                            exact ⟨by first | rfl | (simp [errW_none, errW_some] <;> rfl) | (simp [*, errW_none, errW_some] <;> rfl), by repeat (first | (with_reducible first | exact HB.out | apply below_alloc | apply pw_below_drewN | apply below_drew1 | refine below_set ?_ GE220.out | refine below_set ?_ GE230.out) | exact HB.out)⟩
                          · rw [if_neg c96] at H
                            have c96b0 : decide (16777216 < a3) = false := decide_eq_false c96
                            clear c96
                            by_cases c99 : (l0_2.length : Int) = 120
                            · rw [if_pos c99] at H
                              have c99b0 : ((l0_2.length : Int) == 120) = true := beq_iff_eq.mpr c99
                              have c99b1 : ((l0_2.length : Int) != 120) = false := bne_eq_false_iff_eq.mpr c99
                              clear c99
                              obtain rfl := Option.some.inj H
                              have hnb100 := NB230_220.out
                              have hnc100 := NB220_230.out
                              have hcz101_0 : wc.cell? ⟨gb230, 0, none⟩ = some (.int .i64 t224) := (blk_cell BK230.out 0).trans rfl
                              have hcz101_1 : wc.cell? ⟨gb230, 1, none⟩ = some (.int .i64 t225) := (blk_cell BK230.out 1).trans rfl
                              have hcz101_2 : wc.cell? ⟨gb230, 2, none⟩ = some (.slice Ao30 t226.length co30) := (blk_cell BK230.out 2).trans rfl
                              have hfz101_0 := blk_frozen BK230.out 0
                              have hfz101_1 := blk_frozen BK230.out 1
                              have hfz101_2 := blk_frozen BK230.out 2
                              have hcz102_0 : wc.cell? ⟨gb220, 0, none⟩ = some (.int .i64 a0_0) := (blk_cell BK220.out 0).trans rfl
                              have hcz102_1 : wc.cell? ⟨gb220, 1, none⟩ = some (.int .i64 a0_1) := (blk_cell BK220.out 1).trans rfl
                              have hcz102_2 : wc.cell? ⟨gb220, 2, none⟩ = some (.slice A0_2 l0_2.length c0_2) := (blk_cell BK220.out 2).trans rfl
                              have hfz102_0 := blk_frozen BK220.out 0
                              have hfz102_1 := blk_frozen BK220.out 1
                              have hfz102_2 := blk_frozen BK220.out 2
                              go_wp2
                              go_ret
                              exact ⟨by first | rfl | (simp [errW_none, errW_some] <;> rfl) | (simp [*, errW_none, errW_some] <;> rfl), by repeat (first | (with_reducible first | exact HB.out | apply below_alloc | apply pw_below_drewN | apply below_drew1 | refine below_set ?_ GE220.out | refine below_set ?_ GE230.out) | exact HB.out)⟩
                            · rw [if_neg c99] at H
                              have c99b0 : ((l0_2.length : Int) == 120) = false := beq_eq_false_iff_ne.mpr c99
                              have c99b1 : ((l0_2.length : Int) != 120) = true := bne_iff_ne.mpr c99
                              by_cases c103 : t223 > 0
                              · rw [if_pos c103] at H
                                have c103b0 : decide (0 < t223) = true := decide_eq_true c103
                                clear c103
                                obtain ⟨ji104, hji104⟩ : ∃ j_ : Int, (wrap64 (t223 - 1)) = j_ := ⟨_, rfl⟩
                                replace H : (if 0 ≤ (ji104) then (if (ji104) < (l0_2.length : Int) then (some (((rd_T32 l0_2 (ji104)).f0).toList == a1.toList)) else (none)) else (none)) = some r := by first | (rw [hji104] at H; exact H) | (simp only [hji104] at H ⊢; exact H)
                                have hji104w : (IntKind.i64.wrap (t223 - 1)) = ji104 := (i64_w _).trans hji104
                                by_cases c105 : 0 ≤ (ji104)
                                · rw [if_pos c105] at H
                                  have c105b0 : decide (0 ≤ (ji104)) = true := decide_eq_true c105
                                  clear c105
                                  by_cases c106 : (ji104) < (l0_2.length : Int)
                                  · rw [if_pos c106] at H
                                    have c106b0 : decide ((ji104) < (l0_2.length : Int)) = true := decide_eq_true c106
                                    clear c106
                                    obtain rfl := Option.some.inj H
                                    have hnb107 := NB230_220.out
                                    have hnc107 := NB220_230.out
                                    have hcz108_0 : wc.cell? ⟨gb230, 0, none⟩ = some (.int .i64 t224) := (blk_cell BK230.out 0).trans rfl
                                    have hcz108_1 : wc.cell? ⟨gb230, 1, none⟩ = some (.int .i64 t225) := (blk_cell BK230.out 1).trans rfl
                                    have hcz108_2 : wc.cell? ⟨gb230, 2, none⟩ = some (.slice Ao30 t226.length co30) := (blk_cell BK230.out 2).trans rfl
                                    have hfz108_0 := blk_frozen BK230.out 0
                                    have hfz108_1 := blk_frozen BK230.out 1
                                    have hfz108_2 := blk_frozen BK230.out 2
                                    have hcz109_0 : wc.cell? ⟨gb220, 0, none⟩ = some (.int .i64 a0_0) := (blk_cell BK220.out 0).trans rfl
                                    have hcz109_1 : wc.cell? ⟨gb220, 1, none⟩ = some (.int .i64 a0_1) := (blk_cell BK220.out 1).trans rfl
                                    have hcz109_2 : wc.cell? ⟨gb220, 2, none⟩ = some (.slice A0_2 l0_2.length c0_2) := (blk_cell BK220.out 2).trans rfl
                                    have hfz109_0 := blk_frozen BK220.out 0
                                    have hfz109_1 := blk_frozen BK220.out 1
                                    have hfz109_2 := blk_frozen BK220.out 2
                                    have p231 : 0 ≤ ((ji104) : Int) := of_decide_eq_true (by first | (with_reducible assumption) | assumption)
                                    have q231 : (ji104) < (l0_2.length : Int) := of_decide_eq_true (by first | (with_reducible assumption) | assumption)
                                    obtain ⟨ad231, e231, hx231_0, hx231_1⟩ := at_T32 HR0_2.out (ji104) p231 q231
                                    cases e231
                                    replace hx231_0 := (HB.out.cell (World.block_lt_of_cell? w _ hx231_0)).trans hx231_0
                                    replace hx231_1 := (HB.out.cell (World.block_lt_of_cell? w _ hx231_1)).trans hx231_1
                                    replace p231 := eq_true p231
                                    replace q231 := eq_true q231
                                    go_wp2
                                    go_ret
                                    exact ⟨by first | rfl | (simp [errW_none, errW_some] <;> rfl) | (simp only [← hji104]; first | rfl | (simp [errW_none, errW_some] <;> rfl)) | (simp [*, errW_none, errW_some] <;> rfl), by repeat (first | (with_reducible first | exact HB.out | apply below_alloc | apply pw_below_drewN | apply below_drew1 | refine below_set ?_ GE220.out | refine below_set ?_ GE230.out) | exact HB.out)⟩
                                  · rw [if_neg c106] at H
                                    exact absurd H (by simp)
                                · rw [if_neg c105] at H
                                  exact absurd H (by simp)
                              · rw [if_neg c103] at H
                                have c103b0 : decide (0 < t223) = false := decide_eq_false c103
                                clear c103
                                obtain rfl := Option.some.inj H
                                have hnb110 := NB230_220.out
                                have hnc110 := NB220_230.out
                                have hcz111_0 : wc.cell? ⟨gb230, 0, none⟩ = some (.int .i64 t224) := (blk_cell BK230.out 0).trans rfl
                                have hcz111_1 : wc.cell? ⟨gb230, 1, none⟩ = some (.int .i64 t225) := (blk_cell BK230.out 1).trans rfl
                                have hcz111_2 : wc.cell? ⟨gb230, 2, none⟩ = some (.slice Ao30 t226.length co30) := (blk_cell BK230.out 2).trans rfl
                                have hfz111_0 := blk_frozen BK230.out 0
                                have hfz111_1 := blk_frozen BK230.out 1
                                have hfz111_2 := blk_frozen BK230.out 2
                                have hcz112_0 : wc.cell? ⟨gb220, 0, none⟩ = some (.int .i64 a0_0) := (blk_cell BK220.out 0).trans rfl
                                have hcz112_1 : wc.cell? ⟨gb220, 1, none⟩ = some (.int .i64 a0_1) := (blk_cell BK220.out 1).trans rfl
                                have hcz112_2 : wc.cell? ⟨gb220, 2, none⟩ = some (.slice A0_2 l0_2.length c0_2) := (blk_cell BK220.out 2).trans rfl
                                have hfz112_0 := blk_frozen BK220.out 0
                                have hfz112_1 := blk_frozen BK220.out 1
                                have hfz112_2 := blk_frozen BK220.out 2
                                go_wp2
                                go_ret
                                exact ⟨by first | rfl | (simp [errW_none, errW_some] <;> rfl) | (simp [*, errW_none, errW_some] <;> rfl), by repeat (first | (with_reducible first | exact HB.out | apply below_alloc | apply pw_below_drewN | apply below_drew1 | refine below_set ?_ GE220.out | refine below_set ?_ GE230.out) | exact HB.out)⟩
                  · rw [if_neg c86] at H
                    have c86b0 : ((t226.length : Int) == 0) = false := beq_eq_false_iff_ne.mpr c86
                    have c86b1 : ((t226.length : Int) != 0) = true := bne_iff_ne.mpr c86
                    have c86b2 : ¬ (t226 = []) := fun h_ => c86 (by rw [h_]; rfl)
                    obtain rfl := Option.some.inj H
                    have hnb113 := NB230_220.out
                    have hnc113 := NB220_230.out
                    have hcz114_0 : wc.cell? ⟨gb230, 0, none⟩ = some (.int .i64 t224) := (blk_cell BK230.out 0).trans rfl
                    have hcz114_1 : wc.cell? ⟨gb230, 1, none⟩ = some (.int .i64 t225) := (blk_cell BK230.out 1).trans rfl
                    have hcz114_2 : wc.cell? ⟨gb230, 2, none⟩ = some (.slice Ao30 t226.length co30) := (blk_cell BK230.out 2).trans rfl
                    have hfz114_0 := blk_frozen BK230.out 0
                    have hfz114_1 := blk_frozen BK230.out 1
                    have hfz114_2 := blk_frozen BK230.out 2
                    go_wp2
                    go_ret
                    exact ⟨by first | rfl | (simp [errW_none, errW_some] <;> rfl) | (simp [*, errW_none, errW_some] <;> rfl), by repeat (first | (with_reducible first | exact HB.out | apply below_alloc | apply pw_below_drewN | apply below_drew1 | refine below_set ?_ GE220.out | refine below_set ?_ GE230.out) | exact HB.out)⟩
  · replace c6 := Bool.eq_false_iff.mpr c6
    subst c6
    have H1 : (some false) = some r := by rw [if_neg (show ¬ (false = true) by decide)] at H; exact H
    clear H
    have H := H1
    clear H1
    obtain rfl := Option.some.inj H
    go_enter Try.func3, Try.ntmps3
    go_wp2_with (first | ((with_reducible refine gate_dst (N := 4) rfl ?_); (try (refine gate_guard (by rfl) ?_; dsimp only)); refine box_event ?hg (N := 4) ?hd (cs := #[.int .i64 a0_0, .int .i64 a0_1, .slice A0_2 l0_2.length c0_2]) (t := 24) ?hr ?_; (case hd => rfl); (case hg => rfl); (case hr => first | (go_simp; done) | (go_simp; rfl)); intro gb220 hg w115 hbox hb; have n0_ := Aside0.mk (below_step (by repeat (first | (with_reducible first | exact HB.out | apply below_alloc | apply pw_below_drewN | apply below_drew1) | exact HB.out)) hb); have n1_ := Aside0.mk (hbox); have n2_ := Aside0.mk ((by rw [hg]; exact (below_size (by repeat (first | (with_reducible first | exact HB.out | apply below_alloc | apply pw_below_drewN | apply below_drew1) | exact HB.out))) : w.heap.size ≤ gb220)); have n3_ := Aside0.mk ((by rw [hg]; exact (below_size (by repeat (first | (with_reducible first | exact HB.out | apply below_alloc | apply pw_below_drewN | apply below_drew1) | exact HB.out))) : w.heap.size ≤ gb220)); clear HB; have HB := n0_; have BK220 := n1_; have GW220 := n2_; have GE220 := n3_; clear n0_ n1_ n2_ n3_; clear hb hbox hg) | ((with_reducible refine gate_callee (f := 10) rfl ?_); refine goesL_ (some 13) rfl rfl Try.func10 (by kernel_rfl) rfl #[] rfl (by (try simp only [List.map_toArray, List.map_cons, List.map_nil]); first | done | rfl | (simp only [List.length_drop, List.length_take]; rfl)) ?_; (with_reducible refine (dasdlaw20_awake.calls k  false _ A5.out).mono ?_); rintro e w116 ⟨rfl, hb⟩; refine ⟨_, rfl, ?_⟩; have n0_ := Aside0.mk (blk_below (g := gb220) (o := .cells #[.int .i64 a0_0, .int .i64 a0_1, .slice A0_2 l0_2.length c0_2] 24 (0, 0)) (by (with_reducible repeat (first | refine blk_drewN ?_ _ | refine blk_drew ?_ | refine blk_alloc ?_ _)); exact BK220.out) hb); have n1_ := Aside0.mk (below_step (by repeat (first | (with_reducible first | exact HB.out | apply below_alloc | apply pw_below_drewN | apply below_drew1 | refine below_set ?_ GE220.out) | exact HB.out)) hb); clear BK220; clear HB; have BK220 := n0_; have HB := n1_; clear n0_ n1_; (try clear hb); (try clear hb2); (try clear hk); (try clear hi)))
    go_ret
    exact ⟨by first | rfl | (simp [errW_none, errW_some] <;> rfl) | (simp [*, errW_none, errW_some] <;> rfl), by repeat (first | (with_reducible first | exact HB.out | apply below_alloc | apply pw_below_drewN | apply below_drew1 | refine below_set ?_ GE220.out) | exact HB.out)⟩

end Go.Proofs.Ytffkgdaookidbaa.XNx
