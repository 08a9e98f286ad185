/- Written by xprint.py, a program of this session: what functions of the program answer, each by a walk of its code; no condition beside those in the statements. -/
import Derived.Test.YtffkgdaookidbaaXNx0
import Derived.Test.YtffkgdaookidbaaXNx14
import Derived.Test.YtffkgdaookidbaaXNx21
import Derived.Test.YtffkgdaookidbaaXNx23
namespace Go.Proofs.Ytffkgdaookidbaa.XNx
open Go.RowKit Go.Proofs.YtffkgdaookidbaaW.PrintWords Go.Proofs.YtffkgdaookidbaaW.PrintLast Go.Proofs.YtffkgdaookidbaaW.PrintMore
attribute [local go_sem] max2_int min2_int max_two min_two max_three min_three max_four min_four   -- for this text's walks alone
open Go.Proofs.Ytffkgdaookidbaa.XW
set_option linter.unusedVariables false
set_option linter.unusedSimpArgs false

/-! ### dasdref20_Encode: function 24 -/
def dasdref20_Encode.j0 : Nat → Int → Bool → Int → Int → List (S32) → Option (ByteArray × Int)
  | 0, _, _, _, _, _ => none
  | k + 1, x0, x14, x368000, x368001, x368002 => if x14 = true then (some ((⟨#[]⟩ : ByteArray), 1)) else ((dasdref20_form.f k x368000 x368001 x368002).bind fun t370 => (if (t370.size : Int) > x0 then (some ((⟨#[]⟩ : ByteArray), 8)) else (if 0 ≤ (wrap64 (x0 - (t370.size : Int))) then (if (wrap64 (x0 - (t370.size : Int)) : Int).toNat ≤ 281474976710656 then ((some (List.replicate (wrap64 (x0 - (t370.size : Int)) : Int).toNat 0 : List Int)).bind fun y371 => (if t370.size + (strOfNums y371).size ≤ 9223372036854775807 then (some (t370 ++ (strOfNums y371), 0)) else (none))) else (none)) else (none))))
def dasdref20_Encode.f (k : Nat) (a0 : Int) (a1_0 : Int) (a1_1 : Int) (l1_2 : List (S32)) : Option (ByteArray × Int) := (dasdref17_IsSize.f a0).bind fun t368 => (if t368 = true then ((dasdref20_IsNode.f k a1_0 a1_1 l1_2).bind fun t369 => (dasdref20_Encode.j0 k a0 (!t369) a1_0 a1_1 l1_2)) else (dasdref20_Encode.j0 k a0 true a1_0 a1_1 l1_2))
theorem dasdref20_Encode.mono_l : ∀ k, (∀ y0 y1 y2 y3 y4, LeO (dasdref20_Encode.j0 k y0 y1 y2 y3 y4) (dasdref20_Encode.j0 (k + 1) y0 y1 y2 y3 y4))
  | 0 => fun _ _ _ _ _ r h => by simp [dasdref20_Encode.j0] at h
  | k + 1 => by
    have ih0 := dasdref20_Encode.mono_l k
    · intro y0 y1 y2 y3 y4
      unfold dasdref20_Encode.j0
      repeat' first
      | (with_reducible exact ih0 _ _ _ _ _)
      | (with_reducible exact dasdref20_IsNode.mono _ _ _ _)
      | (with_reducible exact dasdref20_form.mono _ _ _ _)
      | (with_reducible exact LeO.refl _)
      | (with_reducible exact LeO.none _)
      | (with_reducible refine LeO.ite ?_ ?_)
      | (with_reducible refine LeO.bind ?_ (fun _ => ?_))
      | exact ih0 _ _ _ _ _
      | exact dasdref20_IsNode.mono _ _ _ _
      | exact dasdref20_form.mono _ _ _ _
      | exact LeO.none _
      | refine LeO.ite ?_ ?_
      | refine LeO.bind ?_ (fun _ => ?_)
theorem dasdref20_Encode.mono : ∀ a0 a1 a2 a3 k, LeO (dasdref20_Encode.f k a0 a1 a2 a3) (dasdref20_Encode.f (k + 1) a0 a1 a2 a3) := by
  intro a0 a1 a2 a3 k
  have ih0 := dasdref20_Encode.mono_l k
  unfold dasdref20_Encode.f
  repeat' first
      | (with_reducible exact ih0 _ _ _ _ _)
      | (with_reducible exact dasdref20_IsNode.mono _ _ _ _)
      | (with_reducible exact dasdref20_form.mono _ _ _ _)
      | (with_reducible exact LeO.refl _)
      | (with_reducible exact LeO.none _)
      | (with_reducible refine LeO.ite ?_ ?_)
      | (with_reducible refine LeO.bind ?_ (fun _ => ?_))
      | exact ih0 _ _ _ _ _
      | exact dasdref20_IsNode.mono _ _ _ _
      | exact dasdref20_form.mono _ _ _ _
      | exact LeO.none _
      | refine LeO.ite ?_ ?_
      | refine LeO.bind ?_ (fun _ => ?_)
set_option maxHeartbeats 8000000 in
set_option maxRecDepth 100000 in
theorem dasdref20_Encode.calls (k : Nat) (a0 : Int) (a1_0 : Int) (a1_1 : Int) (A1_2 : Option Addr) (c1_2 : Nat) (l1_2 : List (S32)) (r1 : ByteArray) (r2 : Int) (w : World) (hr1_2 : Kd.C k32 w A1_2 l1_2.length l1_2) (hc1_2 : l1_2.length ≤ c1_2) (h : dasdref20_Encode.f k a0 a1_0 a1_1 l1_2 = some (r1, r2)) :
    Calls Try.prog 24 #[.int .i64 a0, .agg #[.int .i64 a1_0, .int .i64 a1_1, .slice A1_2 l1_2.length c1_2]] w fun e w' => e = .returned (.tuple #[.string r1, .int .i64 r2]) ∧ Below w.heap.size w w' := by
  have hu24 := Try.underlying24
  have HR1_2 := Aside0.mk hr1_2
  have HC1_2 := Aside0.mk hc1_2
  clear hr1_2 hc1_2
  have HB := Aside0.mk (Below.refl w.heap.size w)
  have H : ((dasdref17_IsSize.f a0).bind fun t368 => (if t368 = true then ((dasdref20_IsNode.f k a1_0 a1_1 l1_2).bind fun t369 => (dasdref20_Encode.j0 k a0 (!t369) a1_0 a1_1 l1_2)) else (dasdref20_Encode.j0 k a0 true a1_0 a1_1 l1_2))) = some (r1, r2) := h
  clear h
  have HC3 := Aside0.mk H
  clear H
  go_enter Try.func24, Try.ntmps24
  go_upto_region 1 with (first | ((with_reducible refine gate_dst (N := 3) rfl ?_); refine box_event ?hg (N := 3) ?hd (cs := #[.int .i64 a1_0, .int .i64 a1_1, .slice A1_2 l1_2.length c1_2]) (t := 24) ?hr ?_; (case hd => rfl); (case hg => rfl); (case hr => first | (go_simp; done) | (go_simp; rfl)); intro gb367 hg w4 hbox hb; have n0_ := Aside0.mk (below_step (by repeat (first | (with_reducible first | exact HB.out | apply below_alloc | apply pw_below_drewN | apply below_drew1) | exact HB.out)) hb); have n1_ := Aside0.mk (hbox); have n2_ := Aside0.mk ((by rw [hg]; exact (below_size (by repeat (first | (with_reducible first | exact HB.out | apply below_alloc | apply pw_below_drewN | apply below_drew1) | exact HB.out))) : w.heap.size ≤ gb367)); have n3_ := Aside0.mk ((by rw [hg]; exact (below_size (by repeat (first | (with_reducible first | exact HB.out | apply below_alloc | apply pw_below_drewN | apply below_drew1) | exact HB.out))) : w.heap.size ≤ gb367)); clear HB; have HB := n0_; have BK367 := n1_; have GW367 := n2_; have GE367 := n3_; clear n0_ n1_ n2_ n3_; clear hb hbox hg))
  (try simp only [Act.put, List.setIfInBounds_toArray, List.set_cons_zero, List.set_cons_succ])
  go_cut [14] (fun v14 wc => ∃ (kq : Nat) (x14_2 : Bool), v14 = .bool x14_2 ∧ Aside0 (dasdref20_Encode.j0 kq a0 x14_2 a1_0 a1_1 l1_2 = some (r1, r2)) ∧ Aside0 (kq ≤ k) ∧ Aside0 (wc.heap[gb367]? = some (.cells #[.int .i64 a1_0, .int .i64 a1_1, (.slice A1_2 l1_2.length c1_2)] 24 (0, 0))) ∧ Aside0 (Below w.heap.size w wc))
  case first =>
    have H := HC3.out
    clear HC3
    replace H := Option.bind_eq_some_iff.mp H
    obtain ⟨t368, A50, H⟩ := H
    replace H : (if t368 = true then ((dasdref20_IsNode.f k a1_0 a1_1 l1_2).bind fun t369 => (dasdref20_Encode.j0 k a0 (!t369) a1_0 a1_1 l1_2)) else (dasdref20_Encode.j0 k a0 true a1_0 a1_1 l1_2)) = some (r1, r2) := H
    have A5 := Aside0.mk A50
    clear A50
    by_cases c6 : t368 = true
    · subst c6
      have H1 : ((dasdref20_IsNode.f k a1_0 a1_1 l1_2).bind fun t369 => (dasdref20_Encode.j0 k a0 (!t369) a1_0 a1_1 l1_2)) = some (r1, r2) := by rw [if_pos rfl] at H; exact H
      clear H
      have H := H1
      clear H1
      replace H := Option.bind_eq_some_iff.mp H
      obtain ⟨t369, A70, H⟩ := H
      replace H : (dasdref20_Encode.j0 k a0 (!t369) a1_0 a1_1 l1_2) = some (r1, r2) := H
      have A7 := Aside0.mk A70
      clear A70
      have H' := Aside0.mk H
      clear H
      go_wp2_with (first | ((with_reducible refine gate_callee (f := 39) rfl ?_); refine goesL_ (some 8) rfl rfl Try.func39 (by kernel_rfl) rfl #[.int .i64 a0] rfl (by (try simp only [List.map_toArray, List.map_cons, List.map_nil]); first | done | rfl | (simp only [List.length_drop, List.length_take]; rfl)) ?_; (with_reducible refine (dasdref17_IsSize.calls a0 true _ A5.out).mono ?_); rintro e w' ⟨rfl, ⟨nd, rfl⟩⟩; refine ⟨_, rfl, ?_⟩; have hcz8_0 : w4.cell? ⟨gb367, 0, none⟩ = some (.int .i64 a1_0) := (blk_cell BK367.out 0).trans rfl; have hcz8_1 : w4.cell? ⟨gb367, 1, none⟩ = some (.int .i64 a1_1) := (blk_cell BK367.out 1).trans rfl; have hcz8_2 : w4.cell? ⟨gb367, 2, none⟩ = some (.slice A1_2 l1_2.length c1_2) := (blk_cell BK367.out 2).trans rfl; have hfz8_0 := blk_frozen BK367.out 0; have hfz8_1 := blk_frozen BK367.out 1; have hfz8_2 := blk_frozen BK367.out 2) | (go_at_call 11; (with_reducible refine (dasdref20_IsNode.calls k a1_0 a1_1 _ _ l1_2 t369 _ ?side1 ?side2 A7.out).mono ?_); (case side1 => repeat (first | exact (Kd.C_below HR1_2.out (by repeat (first | (with_reducible first | exact HB.out | apply below_alloc | apply pw_below_drewN | apply below_drew1 | refine below_set ?_ GE367.out) | exact HB.out))) | (with_reducible refine Kd.C_alloc ?_ _) | (with_reducible refine Kd.C_drewN ?_ _) | (with_reducible refine Kd.C_drew ?_))); (case side2 => exact HC1_2.out); rintro e w9 ⟨rfl, hb⟩; have n0_ := Aside0.mk (blk_below (g := gb367) (o := .cells #[.int .i64 a1_0, .int .i64 a1_1, .slice A1_2 l1_2.length c1_2] 24 (0, 0)) (by (with_reducible repeat (first | refine blk_drewN ?_ _ | refine blk_drew ?_ | refine blk_alloc ?_ _)); exact BK367.out) hb); have n1_ := Aside0.mk (below_step (by repeat (first | (with_reducible first | exact HB.out | apply below_alloc | apply pw_below_drewN | apply below_drew1 | refine below_set ?_ GE367.out) | exact HB.out)) hb); clear BK367; clear HB; have BK367 := n0_; have HB := n1_; clear n0_ n1_; (try clear hb); (try clear hb2); (try clear hk); (try clear hi)))
      go_meet
      case rel => exact ⟨_, (!t369), (by first | rfl | (simp; done) | (simp [*]; done)), H', ⟨by first | omega | exact Nat.le_refl _⟩, ⟨by (with_reducible repeat (first | refine blk_drewN ?_ _ | refine blk_drew ?_ | refine blk_alloc ?_ _)); exact BK367.out⟩, ⟨by repeat (first | (with_reducible first | exact HB.out | apply below_alloc | apply pw_below_drewN | apply below_drew1 | refine below_set ?_ GE367.out) | exact HB.out)⟩⟩
    · replace c6 := Bool.eq_false_iff.mpr c6
      subst c6
      have H1 : (dasdref20_Encode.j0 k a0 true a1_0 a1_1 l1_2) = some (r1, r2) := by rw [if_neg (show ¬ (false = true) by decide)] at H; exact H
      clear H
      have H := H1
      clear H1
      have H' := Aside0.mk H
      clear H
      go_wp2_with (first | ((with_reducible refine gate_callee (f := 39) rfl ?_); refine goesL_ (some 8) rfl rfl Try.func39 (by kernel_rfl) rfl #[.int .i64 a0] rfl (by (try simp only [List.map_toArray, List.map_cons, List.map_nil]); first | done | rfl | (simp only [List.length_drop, List.length_take]; rfl)) ?_; (with_reducible refine (dasdref17_IsSize.calls a0 false _ A5.out).mono ?_); rintro e w' ⟨rfl, ⟨nd, rfl⟩⟩; refine ⟨_, rfl, ?_⟩))
      go_meet
      case rel => exact ⟨_, (true), (by first | rfl | (simp; done) | (simp [*]; done)), H', ⟨by first | omega | exact Nat.le_refl _⟩, ⟨by (with_reducible repeat (first | refine blk_drewN ?_ _ | refine blk_drew ?_ | refine blk_alloc ?_ _)); exact BK367.out⟩, ⟨by repeat (first | (with_reducible first | exact HB.out | apply below_alloc | apply pw_below_drewN | apply below_drew1 | refine below_set ?_ GE367.out) | exact HB.out)⟩⟩
  case rest =>
    clear HC3
    try clear c1
    try clear c2
    try clear p2
    try clear c3
    try clear c6
    try clear hcz8_0
    try clear hcz8_1
    try clear hcz8_2
    try clear hfz8_0
    try clear hfz8_1
    try clear hfz8_2
    obtain ⟨kq, x14_2, rfl, HA, HJ2, BK367, HB⟩ := hcut
    cases kq with
    | zero => exact absurd HA.out (by simp [dasdref20_Encode.j0])
    | succ kj2 =>
      have H := HA.out
      clear HA
      simp only [dasdref20_Encode.j0] at H
      by_cases c10 : x14_2 = true
      · subst c10
        have H1 : (some ((⟨#[]⟩ : ByteArray), 1)) = some (r1, r2) := by rw [if_pos rfl] at H; exact H
        clear H
        have H := H1
        clear H1
        simp only [Option.some.injEq, Prod.mk.injEq] at H
        obtain ⟨rfl, rfl⟩ := H
        go_wp2
        go_ret2
        exact ⟨by first | rfl | (simp [errW_none, errW_some] <;> rfl) | (simp [*, errW_none, errW_some] <;> rfl), by repeat (first | (with_reducible first | exact HB.out | apply below_alloc | apply pw_below_drewN | apply below_drew1 | refine below_set ?_ GE367.out) | exact HB.out)⟩
      · replace c10 := Bool.eq_false_iff.mpr c10
        subst c10
        have H1 : ((dasdref20_form.f kj2 a1_0 a1_1 l1_2).bind fun t370 => (if (t370.size : Int) > a0 then (some ((⟨#[]⟩ : ByteArray), 8)) else (if 0 ≤ (wrap64 (a0 - (t370.size : Int))) then (if (wrap64 (a0 - (t370.size : Int)) : Int).toNat ≤ 281474976710656 then ((some (List.replicate (wrap64 (a0 - (t370.size : Int)) : Int).toNat 0 : List Int)).bind fun y371 => (if t370.size + (strOfNums y371).size ≤ 9223372036854775807 then (some (t370 ++ (strOfNums y371), 0)) else (none))) else (none)) else (none)))) = some (r1, r2) := by rw [if_neg (show ¬ (false = true) by decide)] at H; exact H
        clear H
        have H := H1
        clear H1
        replace H := Option.bind_eq_some_iff.mp H
        obtain ⟨t370, A110, H⟩ := H
        replace H : (if (t370.size : Int) > a0 then (some ((⟨#[]⟩ : ByteArray), 8)) else (if 0 ≤ (wrap64 (a0 - (t370.size : Int))) then (if (wrap64 (a0 - (t370.size : Int)) : Int).toNat ≤ 281474976710656 then ((some (List.replicate (wrap64 (a0 - (t370.size : Int)) : Int).toNat 0 : List Int)).bind fun y371 => (if t370.size + (strOfNums y371).size ≤ 9223372036854775807 then (some (t370 ++ (strOfNums y371), 0)) else (none))) else (none)) else (none))) = some (r1, r2) := H
        have A11 := Aside0.mk A110
        clear A110
        by_cases c12 : (t370.size : Int) > a0
        · rw [if_pos c12] at H
          have c12b0 : decide (a0 < (t370.size : Int)) = true := decide_eq_true c12
          clear c12
          simp only [Option.some.injEq, Prod.mk.injEq] at H
          obtain ⟨rfl, rfl⟩ := H
          have hcz13_0 : wc.cell? ⟨gb367, 0, none⟩ = some (.int .i64 a1_0) := (blk_cell BK367.out 0).trans rfl
          have hcz13_1 : wc.cell? ⟨gb367, 1, none⟩ = some (.int .i64 a1_1) := (blk_cell BK367.out 1).trans rfl
          have hcz13_2 : wc.cell? ⟨gb367, 2, none⟩ = some (.slice A1_2 l1_2.length c1_2) := (blk_cell BK367.out 2).trans rfl
          have hfz13_0 := blk_frozen BK367.out 0
          have hfz13_1 := blk_frozen BK367.out 1
          have hfz13_2 := blk_frozen BK367.out 2
          go_wp2_with (first | ((with_reducible refine gate_callee (f := 44) rfl ?_); refine goesL_ (some 16) rfl rfl Try.func44 (by kernel_rfl) rfl #[.agg #[.int .i64 a1_0, .int .i64 a1_1, .slice A1_2 l1_2.length c1_2]] rfl (by (try simp only [List.map_toArray, List.map_cons, List.map_nil]); first | done | rfl | (simp only [List.length_drop, List.length_take]; rfl)) ?_; (with_reducible refine (dasdref20_form.calls kj2 a1_0 a1_1 _ _ l1_2 t370 _ ?side1 ?side2 A11.out).mono ?_); (case side1 => repeat (first | exact (Kd.C_below HR1_2.out HB.out) | (with_reducible refine Kd.C_alloc ?_ _) | (with_reducible refine Kd.C_drewN ?_ _) | (with_reducible refine Kd.C_drew ?_))); (case side2 => exact HC1_2.out); rintro e w14 ⟨rfl, hb⟩; refine ⟨_, rfl, ?_⟩; have n0_ := Aside0.mk (blk_below (g := gb367) (o := .cells #[.int .i64 a1_0, .int .i64 a1_1, .slice A1_2 l1_2.length c1_2] 24 (0, 0)) (by (with_reducible repeat (first | refine blk_drewN ?_ _ | refine blk_drew ?_ | refine blk_alloc ?_ _)); exact BK367.out) hb); have n1_ := Aside0.mk (below_step (by repeat (first | (with_reducible first | exact HB.out | apply below_alloc | apply pw_below_drewN | apply below_drew1 | refine below_set ?_ GE367.out) | exact HB.out)) hb); clear BK367; clear HB; have BK367 := n0_; have HB := n1_; clear n0_ n1_; (try clear hb); (try clear hb2); (try clear hk); (try clear hi)))
          go_ret2
          exact ⟨by first | rfl | (simp [errW_none, errW_some] <;> rfl) | (simp [*, errW_none, errW_some] <;> rfl), by repeat (first | (with_reducible first | exact HB.out | apply below_alloc | apply pw_below_drewN | apply below_drew1 | refine below_set ?_ GE367.out) | exact HB.out)⟩
        · rw [if_neg c12] at H
          have c12b0 : decide (a0 < (t370.size : Int)) = false := decide_eq_false c12
          clear c12
          obtain ⟨ji15, hji15⟩ : ∃ j_ : Int, (wrap64 (a0 - (t370.size : Int))) = j_ := ⟨_, rfl⟩
          replace H : (if 0 ≤ (ji15) then (if (ji15 : Int).toNat ≤ 281474976710656 then ((some (List.replicate (ji15 : Int).toNat 0 : List Int)).bind fun y371 => (if t370.size + (strOfNums y371).size ≤ 9223372036854775807 then (some (t370 ++ (strOfNums y371), 0)) else (none))) else (none)) else (none)) = some (r1, r2) := by first | (rw [hji15] at H; exact H) | (simp only [hji15] at H ⊢; exact H)
          (try rw [hji15] at A11)
          have hji15w : (IntKind.i64.wrap (a0 - (t370.size : Int))) = ji15 := (i64_w _).trans hji15
          by_cases c16 : 0 ≤ (ji15)
          · rw [if_pos c16] at H
            have c16b0 := eq_true c16
            have c16b1 : decide (0 ≤ (ji15)) = true := decide_eq_true c16
            clear c16
            by_cases c17 : (ji15 : Int).toNat ≤ 281474976710656
            · rw [if_pos c17] at H
              have c17b0 := eq_true c17
              have c17b1 : decide ((ji15 : Int).toNat ≤ 281474976710656) = true := decide_eq_true c17
              clear c17
              obtain ⟨y371, hy371⟩ : ∃ y_ : List Int, y_ = (List.replicate (ji15 : Int).toNat 0) := ⟨_, rfl⟩
              replace H : (if t370.size + (strOfNums y371).size ≤ 9223372036854775807 then (some (t370 ++ (strOfNums y371), 0)) else (none)) = some (r1, r2) := by first | (rw [hy371]; with_reducible exact H) | (have H2_ := (Option.bind_some _ _).symm.trans H; rw [hy371]; with_reducible exact H2_) | (have H2_ := (Option.bind_some _ _).symm.trans H; with_reducible exact H2_) | with_reducible exact H | (rw [hy371]; exact H) | exact H
              have Ny371 := Aside0.mk hy371
              clear hy371
              by_cases c18 : t370.size + (strOfNums y371).size ≤ 9223372036854775807
              · rw [if_pos c18] at H
                have c18b0 := eq_true c18
                have c18b1 : decide (t370.size + (strOfNums y371).size ≤ 9223372036854775807) = true := decide_eq_true c18
                try have c18b2 : (9223372036854775807 < t370.size + (strOfNums y371).size) = False := eq_false (Nat.not_lt.2 c18)
                simp only [Option.some.injEq, Prod.mk.injEq] at H
                obtain ⟨rfl, rfl⟩ := H
                have hcz19_0 : wc.cell? ⟨gb367, 0, none⟩ = some (.int .i64 a1_0) := (blk_cell BK367.out 0).trans rfl
                have hcz19_1 : wc.cell? ⟨gb367, 1, none⟩ = some (.int .i64 a1_1) := (blk_cell BK367.out 1).trans rfl
                have hcz19_2 : wc.cell? ⟨gb367, 2, none⟩ = some (.slice A1_2 l1_2.length c1_2) := (blk_cell BK367.out 2).trans rfl
                have hfz19_0 := blk_frozen BK367.out 0
                have hfz19_1 := blk_frozen BK367.out 1
                have hfz19_2 := blk_frozen BK367.out 2
                go_wp2_with (first | ((with_reducible refine gate_callee (f := 44) rfl ?_); refine goesL_ (some 16) rfl rfl Try.func44 (by kernel_rfl) rfl #[.agg #[.int .i64 a1_0, .int .i64 a1_1, .slice A1_2 l1_2.length c1_2]] rfl (by (try simp only [List.map_toArray, List.map_cons, List.map_nil]); first | done | rfl | (simp only [List.length_drop, List.length_take]; rfl)) ?_; (with_reducible refine (dasdref20_form.calls kj2 a1_0 a1_1 _ _ l1_2 t370 _ ?side1 ?side2 A11.out).mono ?_); (case side1 => repeat (first | exact (Kd.C_below HR1_2.out HB.out) | (with_reducible refine Kd.C_alloc ?_ _) | (with_reducible refine Kd.C_drewN ?_ _) | (with_reducible refine Kd.C_drew ?_))); (case side2 => exact HC1_2.out); rintro e w20 ⟨rfl, hb⟩; refine ⟨_, rfl, ?_⟩; have n0_ := Aside0.mk (blk_below (g := gb367) (o := .cells #[.int .i64 a1_0, .int .i64 a1_1, .slice A1_2 l1_2.length c1_2] 24 (0, 0)) (by (with_reducible repeat (first | refine blk_drewN ?_ _ | refine blk_drew ?_ | refine blk_alloc ?_ _)); exact BK367.out) hb); have n1_ := Aside0.mk (below_step (by repeat (first | (with_reducible first | exact HB.out | apply below_alloc | apply pw_below_drewN | apply below_drew1 | refine below_set ?_ GE367.out) | exact HB.out)) hb); clear BK367; clear HB; have BK367 := n0_; have HB := n1_; clear n0_ n1_; (try clear hb); (try clear hb2); (try clear hk); (try clear hi)) | ((with_reducible refine gate_dst (N := 26) rfl ?_); refine Kd.R_make (Kd.int .u8) _ 5 rfl (N := 26) rfl 58 _ _ rfl ji15 rfl rfl Try.underlying58 (.int .u8 0) 1 info5 rfl (by decide) (by omega) 0 (ok := fun _ => True) (okp := fun _ => True) rfl (fun _ hk => hk) trivial (of_decide_eq_true (by first | (with_reducible assumption) | assumption)) (Nat.le_trans (Nat.mul_le_mul_right _ (of_decide_eq_true (by first | (with_reducible assumption) | assumption) : ji15.toNat ≤ 281474976710656)) (by omega)) (Below.refl _ _) (Nat.le_refl _) ?_; intro v372 w21 ho22 hb hg_ hnew_; clear hg_ hnew_; (first | rw [← Ny371.out] at ho22 | (simp only [Int.reduceToNat] at ho22; rw [← Ny371.out] at ho22)); have n0_ := Aside0.mk (Kd.R_lower ho22 (below_size (by repeat (first | (with_reducible first | exact HB.out | apply below_alloc | apply pw_below_drewN | apply below_drew1 | refine below_set ?_ GE367.out) | exact HB.out)))); have n1_ := Aside0.mk (blk_below (g := gb367) (o := .cells #[.int .i64 a1_0, .int .i64 a1_1, .slice A1_2 l1_2.length c1_2] 24 (0, 0)) (by (with_reducible repeat (first | refine blk_drewN ?_ _ | refine blk_drew ?_ | refine blk_alloc ?_ _)); exact BK367.out) hb); have n2_ := Aside0.mk (below_step (by repeat (first | (with_reducible first | exact HB.out | apply below_alloc | apply pw_below_drewN | apply below_drew1 | refine below_set ?_ GE367.out) | exact HB.out)) hb); clear BK367; clear HB; have HO373 := n0_; have BK367 := n1_; have HB := n2_; clear n0_ n1_ n2_; clear hb ho22; have hcv23 := own_string (P := Try.prog) Try.underlying58 Try.underlying5 Try.underlying9 (Kd.own_of_R HO373.out)))
                go_ret2
                exact ⟨by first | rfl | (simp [errW_none, errW_some] <;> rfl) | (simp only [← hji15]; first | rfl | (simp [errW_none, errW_some] <;> rfl)) | (simp [*, errW_none, errW_some] <;> rfl), by repeat (first | (with_reducible first | exact HB.out | apply below_alloc | apply pw_below_drewN | apply below_drew1 | refine below_set ?_ GE367.out) | exact HB.out)⟩
              · rw [if_neg c18] at H
                exact absurd H (by simp)
            · rw [if_neg c17] at H
              exact absurd H (by simp)
          · rw [if_neg c16] at H
            exact absurd H (by simp)

end Go.Proofs.Ytffkgdaookidbaa.XNx
