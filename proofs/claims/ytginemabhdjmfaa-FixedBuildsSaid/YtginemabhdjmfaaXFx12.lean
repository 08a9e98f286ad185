/- Written by xprint.py, a program of this session: what functions of the program answer, each by a walk of its code; no condition beside those in the statements. -/
import Derived.Test.YtginemabhdjmfaaXFx0
import Derived.Test.YtginemabhdjmfaaXFx3
import Derived.Test.YtginemabhdjmfaaXFx9
import Derived.Test.YtginemabhdjmfaaXFx11
import Derived.Test.YtginemabhdjmfaaExtJoin
namespace Go.Proofs.Ytginemabhdjmfaa.XFx
open Go.RowKit Go.Proofs.YtginemabhdjmfaaW.PrintWords Go.Proofs.YtginemabhdjmfaaW.PrintLast Go.Proofs.YtginemabhdjmfaaW.PrintMore
attribute [local go_sem] max2_int min2_int max_two min_two max_three min_three max_four min_four   -- for this text's walks alone
set_option linter.unusedVariables false
set_option linter.unusedSimpArgs false

/-! ### dasdlaw10_FixedAdds: function 5 -/
def dasdlaw10_FixedAdds.j0 : Nat → Int → Int → ByteArray → ByteArray → Bool → Option (Bool)
  | 0, _, _, _, _, _ => none
  | k + 1, x0, x1, x2, x3, x24 => if x24 = true then ((dasdlaw10_awake.f k).bind fun t209 => (some t209)) else ((fixed_Add.f k x0 x1 x2 x3).bind fun bt210 => ((dasdref10_Add.f k x0 x1 x2 x3).bind fun bt212 => (if bt210.1.toList = bt212.1.toList then (some (bt210.2 == bt212.2)) else (some false))))
def dasdlaw10_FixedAdds.f (k : Nat) (a0 : Int) (a1 : Int) (a2 : ByteArray) (a3 : ByteArray) : Option (Bool) := (dasdlaw10_awake.f k).bind fun t208 => (if t208 = true then (if (a2.size : Int) > 1100 then (dasdlaw10_FixedAdds.j0 k a0 a1 a2 a3 true) else (dasdlaw10_FixedAdds.j0 k a0 a1 a2 a3 (decide ((a3.size : Int) > 1100)))) else (dasdlaw10_FixedAdds.j0 k a0 a1 a2 a3 true))
theorem dasdlaw10_FixedAdds.mono_l : ∀ k, (∀ y0 y1 y2 y3 y4, LeO (dasdlaw10_FixedAdds.j0 k y0 y1 y2 y3 y4) (dasdlaw10_FixedAdds.j0 (k + 1) y0 y1 y2 y3 y4))
  | 0 => fun _ _ _ _ _ r h => by simp [dasdlaw10_FixedAdds.j0] at h
  | k + 1 => by
    have ih0 := dasdlaw10_FixedAdds.mono_l k
    · intro y0 y1 y2 y3 y4
      unfold dasdlaw10_FixedAdds.j0
      repeat' first
      | (with_reducible exact ih0 _ _ _ _ _)
      | (with_reducible exact dasdlaw10_awake.mono _)
      | (with_reducible exact dasdref10_Add.mono _ _ _ _ _)
      | (with_reducible exact fixed_Add.mono _ _ _ _ _)
      | (with_reducible exact LeO.refl _)
      | (with_reducible exact LeO.none _)
      | (with_reducible refine LeO.ite ?_ ?_)
      | (with_reducible refine LeO.bind ?_ (fun _ => ?_))
      | exact ih0 _ _ _ _ _
      | exact dasdlaw10_awake.mono _
      | exact dasdref10_Add.mono _ _ _ _ _
      | exact fixed_Add.mono _ _ _ _ _
      | exact LeO.none _
      | refine LeO.ite ?_ ?_
      | refine LeO.bind ?_ (fun _ => ?_)
theorem dasdlaw10_FixedAdds.mono : ∀ a0 a1 a2 a3 k, LeO (dasdlaw10_FixedAdds.f k a0 a1 a2 a3) (dasdlaw10_FixedAdds.f (k + 1) a0 a1 a2 a3) := by
  intro a0 a1 a2 a3 k
  have ih0 := dasdlaw10_FixedAdds.mono_l k
  unfold dasdlaw10_FixedAdds.f
  repeat' first
      | (with_reducible exact ih0 _ _ _ _ _)
      | (with_reducible exact dasdlaw10_awake.mono _)
      | (with_reducible exact dasdref10_Add.mono _ _ _ _ _)
      | (with_reducible exact fixed_Add.mono _ _ _ _ _)
      | (with_reducible exact LeO.refl _)
      | (with_reducible exact LeO.none _)
      | (with_reducible refine LeO.ite ?_ ?_)
      | (with_reducible refine LeO.bind ?_ (fun _ => ?_))
      | exact ih0 _ _ _ _ _
      | exact dasdlaw10_awake.mono _
      | exact dasdref10_Add.mono _ _ _ _ _
      | exact fixed_Add.mono _ _ _ _ _
      | exact LeO.none _
      | refine LeO.ite ?_ ?_
      | refine LeO.bind ?_ (fun _ => ?_)
set_option maxHeartbeats 8000000 in
set_option maxRecDepth 100000 in
theorem dasdlaw10_FixedAdds.calls (k : Nat) (a0 : Int) (a1 : Int) (a2 : ByteArray) (a3 : ByteArray) (r : Bool) (w : World) (h : dasdlaw10_FixedAdds.f k a0 a1 a2 a3 = some r) :
    Calls Try.prog 5 #[.int .i64 a0, .int .i64 a1, .string a2, .string a3] w fun e w' => e = .returned (.bool r) ∧ Below w.heap.size w w' := by
  have HB := Aside0.mk (Below.refl w.heap.size w)
  have H : ((dasdlaw10_awake.f k).bind fun t208 => (if t208 = true then (if (a2.size : Int) > 1100 then (dasdlaw10_FixedAdds.j0 k a0 a1 a2 a3 true) else (dasdlaw10_FixedAdds.j0 k a0 a1 a2 a3 (decide ((a3.size : Int) > 1100)))) else (dasdlaw10_FixedAdds.j0 k a0 a1 a2 a3 true))) = some r := h
  clear h
  have HC5 := Aside0.mk H
  clear H
  go_enter Try.func5, Try.ntmps5
  go_upto_region 1 with (fail)
  go_cut [24] (fun v24 wc => ∃ (kq : Nat) (x24_4 : Bool), v24 = .bool x24_4 ∧ Aside0 (dasdlaw10_FixedAdds.j0 kq a0 a1 a2 a3 x24_4 = some r) ∧ Aside0 (kq ≤ k) ∧ Aside0 (Below w.heap.size w wc))
  case first =>
    have H := HC5.out
    clear HC5
    replace H := Option.bind_eq_some_iff.mp H
    obtain ⟨t208, A60, H⟩ := H
    replace H : (if t208 = true then (if (a2.size : Int) > 1100 then (dasdlaw10_FixedAdds.j0 k a0 a1 a2 a3 true) else (dasdlaw10_FixedAdds.j0 k a0 a1 a2 a3 (decide ((a3.size : Int) > 1100)))) else (dasdlaw10_FixedAdds.j0 k a0 a1 a2 a3 true)) = some r := H
    have A6 := Aside0.mk A60
    clear A60
    by_cases c7 : t208 = true
    · subst c7
      have H1 : (if (a2.size : Int) > 1100 then (dasdlaw10_FixedAdds.j0 k a0 a1 a2 a3 true) else (dasdlaw10_FixedAdds.j0 k a0 a1 a2 a3 (decide ((a3.size : Int) > 1100)))) = some r := by rw [if_pos rfl] at H; exact H
      clear H
      have H := H1
      clear H1
      by_cases c8 : (a2.size : Int) > 1100
      · rw [if_pos c8] at H
        have c8b0 : decide (1100 < (a2.size : Int)) = true := decide_eq_true c8
        have c8b1 : decide (1100 < a2.size) = true := decide_eq_true (by omega)
        clear c8
        (first | rw [c8b0] | (simp only [i64_w, i32_w]; rw [c8b0]) | skip)
        have H' := Aside0.mk H
        clear H
        go_wp2_with (first | ((with_reducible refine gate_callee (f := 10) rfl ?_); refine goesL_ (some 13) rfl rfl Try.func10 (by kernel_rfl) rfl #[] rfl (by (try simp only [List.map_toArray, List.map_cons, List.map_nil]); first | done | rfl | (simp only [List.length_drop, List.length_take]; rfl)) ?_; (with_reducible refine (dasdlaw10_awake.calls k  true _ A6.out).mono ?_); rintro e w9 ⟨rfl, hb⟩; refine ⟨_, rfl, ?_⟩; have n0_ := Aside0.mk (below_step (by repeat (first | (with_reducible first | exact HB.out | apply below_alloc | apply pw_below_drewN | apply below_drew1) | exact HB.out)) hb); clear HB; have HB := n0_; clear n0_; (try clear hb); (try clear hb2); (try clear hk); (try clear hi)))
        go_meet
        case rel => exact ⟨_, (true), (by first | rfl | (simp; done) | (simp [*]; done)), H', ⟨by first | omega | exact Nat.le_refl _⟩, ⟨by repeat (first | (with_reducible first | exact HB.out | apply below_alloc | apply pw_below_drewN | apply below_drew1) | exact HB.out)⟩⟩
      · rw [if_neg c8] at H
        have c8b0 : decide (1100 < (a2.size : Int)) = false := decide_eq_false c8
        have c8b1 : decide (1100 < a2.size) = false := decide_eq_false (by omega)
        clear c8
        (first | rw [c8b0] | (simp only [i64_w, i32_w]; rw [c8b0]) | skip)
        have H' := Aside0.mk H
        clear H
        go_wp2_with (first | ((with_reducible refine gate_callee (f := 10) rfl ?_); refine goesL_ (some 13) rfl rfl Try.func10 (by kernel_rfl) rfl #[] rfl (by (try simp only [List.map_toArray, List.map_cons, List.map_nil]); first | done | rfl | (simp only [List.length_drop, List.length_take]; rfl)) ?_; (with_reducible refine (dasdlaw10_awake.calls k  true _ A6.out).mono ?_); rintro e w10 ⟨rfl, hb⟩; refine ⟨_, rfl, ?_⟩; have n0_ := Aside0.mk (below_step (by repeat (first | (with_reducible first | exact HB.out | apply below_alloc | apply pw_below_drewN | apply below_drew1) | exact HB.out)) hb); clear HB; have HB := n0_; clear n0_; (try clear hb); (try clear hb2); (try clear hk); (try clear hi)))
        go_meet
        case rel => exact ⟨_, (decide ((a3.size : Int) > 1100)), (by first | rfl | (simp; done) | (simp [*]; done)), H', ⟨by first | omega | exact Nat.le_refl _⟩, ⟨by repeat (first | (with_reducible first | exact HB.out | apply below_alloc | apply pw_below_drewN | apply below_drew1) | exact HB.out)⟩⟩
    · replace c7 := Bool.eq_false_iff.mpr c7
      subst c7
      have H1 : (dasdlaw10_FixedAdds.j0 k a0 a1 a2 a3 true) = some r := by rw [if_neg (show ¬ (false = true) by decide)] at H; exact H
      clear H
      have H := H1
      clear H1
      have H' := Aside0.mk H
      clear H
      go_wp2_with (first | ((with_reducible refine gate_callee (f := 10) rfl ?_); refine goesL_ (some 13) rfl rfl Try.func10 (by kernel_rfl) rfl #[] rfl (by (try simp only [List.map_toArray, List.map_cons, List.map_nil]); first | done | rfl | (simp only [List.length_drop, List.length_take]; rfl)) ?_; (with_reducible refine (dasdlaw10_awake.calls k  false _ A6.out).mono ?_); rintro e w11 ⟨rfl, hb⟩; refine ⟨_, rfl, ?_⟩; have n0_ := Aside0.mk (below_step (by repeat (first | (with_reducible first | exact HB.out | apply below_alloc | apply pw_below_drewN | apply below_drew1) | exact HB.out)) hb); clear HB; have HB := n0_; clear n0_; (try clear hb); (try clear hb2); (try clear hk); (try clear hi)))
      go_meet
      case rel => exact ⟨_, (true), (by first | rfl | (simp; done) | (simp [*]; done)), H', ⟨by first | omega | exact Nat.le_refl _⟩, ⟨by repeat (first | (with_reducible first | exact HB.out | apply below_alloc | apply pw_below_drewN | apply below_drew1) | exact HB.out)⟩⟩
  case rest =>
    clear HC5
    try clear c1
    try clear p2
    try clear c5
    try clear c7
    try clear c8
    try clear c8b0
    try clear c8b1
    try clear c10
    obtain ⟨kq, x24_4, rfl, HA, HJ4, HB⟩ := hcut
    cases kq with
    | zero => exact absurd HA.out (by simp [dasdlaw10_FixedAdds.j0])
    | succ kj4 =>
      have H := HA.out
      clear HA
      simp only [dasdlaw10_FixedAdds.j0] at H
      by_cases c12 : x24_4 = true
      · subst c12
        have H1 : ((dasdlaw10_awake.f kj4).bind fun t209 => (some t209)) = some r := by rw [if_pos rfl] at H; exact H
        clear H
        have H := H1
        clear H1
        replace H := Option.bind_eq_some_iff.mp H
        obtain ⟨t209, A130, H⟩ := H
        replace H : (some t209) = some r := H
        have A13 := Aside0.mk A130
        clear A130
        obtain rfl := Option.some.inj H
        go_wp2_with (first | ((with_reducible refine gate_callee (f := 10) rfl ?_); refine goesL_ (some 25) rfl rfl Try.func10 (by kernel_rfl) rfl #[] rfl (by (try simp only [List.map_toArray, List.map_cons, List.map_nil]); first | done | rfl | (simp only [List.length_drop, List.length_take]; rfl)) ?_; (with_reducible refine (dasdlaw10_awake.calls kj4  t209 _ A13.out).mono ?_); rintro e w14 ⟨rfl, hb⟩; refine ⟨_, rfl, ?_⟩; have n0_ := Aside0.mk (below_step (by repeat (first | (with_reducible first | exact HB.out | apply below_alloc | apply pw_below_drewN | apply below_drew1) | exact HB.out)) hb); clear HB; have HB := n0_; clear n0_; (try clear hb); (try clear hb2); (try clear hk); (try clear hi)))
        go_ret
        exact ⟨by first | rfl | (simp [errW_none, errW_some] <;> rfl) | (simp [*, errW_none, errW_some] <;> rfl), by repeat (first | (with_reducible first | exact HB.out | apply below_alloc | apply pw_below_drewN | apply below_drew1) | exact HB.out)⟩
      · replace c12 := Bool.eq_false_iff.mpr c12
        subst c12
        have H1 : ((fixed_Add.f kj4 a0 a1 a2 a3).bind fun bt210 => ((dasdref10_Add.f kj4 a0 a1 a2 a3).bind fun bt212 => (if bt210.1.toList = bt212.1.toList then (some (bt210.2 == bt212.2)) else (some false)))) = some r := by rw [if_neg (show ¬ (false = true) by decide)] at H; exact H
        clear H
        have H := H1
        clear H1
        replace H := Option.bind_eq_some_iff.mp H
        obtain ⟨⟨t210, t211⟩, A150, H⟩ := H
        replace H : ((dasdref10_Add.f kj4 a0 a1 a2 a3).bind fun bt212 => (if t210.toList = bt212.1.toList then (some (t211 == bt212.2)) else (some false))) = some r := H
        have A15 := Aside0.mk A150
        clear A150
        replace H := Option.bind_eq_some_iff.mp H
        obtain ⟨⟨t212, t213⟩, A160, H⟩ := H
        replace H : (if t210.toList = t212.toList then (some (t211 == t213)) else (some false)) = some r := H
        have A16 := Aside0.mk A160
        clear A160
        by_cases c17 : t210.toList = t212.toList
        · rw [if_pos c17] at H
          have c17b0 : (t210.toList == t212.toList) = true := beq_iff_eq.mpr c17
          have c17b1 : (t210.toList != t212.toList) = false := bne_eq_false_iff_eq.mpr c17
          clear c17
          obtain rfl := Option.some.inj H
          go_wp2_with (first | ((with_reducible refine gate_callee (f := 20) rfl ?_); refine goesL_ (some 31) rfl rfl Try.func20 (by kernel_rfl) rfl #[.int .i64 a0, .int .i64 a1, .string a2, .string a3] rfl (by (try simp only [List.map_toArray, List.map_cons, List.map_nil]); first | done | rfl | (simp only [List.length_drop, List.length_take]; rfl)) ?_; (with_reducible refine (fixed_Add.calls kj4 a0 a1 a2 a3 t210 t211 _ A15.out).mono ?_); rintro e w18 ⟨rfl, hb⟩; refine ⟨_, rfl, ?_⟩; have n0_ := Aside0.mk (below_step (by repeat (first | (with_reducible first | exact HB.out | apply below_alloc | apply pw_below_drewN | apply below_drew1) | exact HB.out)) hb); clear HB; have HB := n0_; clear n0_; (try clear hb); (try clear hb2); (try clear hk); (try clear hi)) | ((with_reducible refine gate_callee (f := 21) rfl ?_); refine goesL_ (some 39) rfl rfl Try.func21 (by kernel_rfl) rfl #[.int .i64 a0, .int .i64 a1, .string a2, .string a3] rfl (by (try simp only [List.map_toArray, List.map_cons, List.map_nil]); first | done | rfl | (simp only [List.length_drop, List.length_take]; rfl)) ?_; (with_reducible refine (dasdref10_Add.calls kj4 a0 a1 a2 a3 t212 t213 _ A16.out).mono ?_); rintro e w19 ⟨rfl, hb⟩; refine ⟨_, rfl, ?_⟩; have n0_ := Aside0.mk (below_step (by repeat (first | (with_reducible first | exact HB.out | apply below_alloc | apply pw_below_drewN | apply below_drew1) | exact HB.out)) hb); clear HB; have HB := n0_; clear n0_; (try clear hb); (try clear hb2); (try clear hk); (try clear hi)))
          go_ret
          exact ⟨by first | rfl | (simp [errW_none, errW_some] <;> rfl) | (simp [*, errW_none, errW_some] <;> rfl), by repeat (first | (with_reducible first | exact HB.out | apply below_alloc | apply pw_below_drewN | apply below_drew1) | exact HB.out)⟩
        · rw [if_neg c17] at H
          have c17b0 : (t210.toList == t212.toList) = false := beq_eq_false_iff_ne.mpr c17
          have c17b1 : (t210.toList != t212.toList) = true := bne_iff_ne.mpr c17
          obtain rfl := Option.some.inj H
          go_wp2_with (first | ((with_reducible refine gate_callee (f := 20) rfl ?_); refine goesL_ (some 31) rfl rfl Try.func20 (by kernel_rfl) rfl #[.int .i64 a0, .int .i64 a1, .string a2, .string a3] rfl (by (try simp only [List.map_toArray, List.map_cons, List.map_nil]); first | done | rfl | (simp only [List.length_drop, List.length_take]; rfl)) ?_; (with_reducible refine (fixed_Add.calls kj4 a0 a1 a2 a3 t210 t211 _ A15.out).mono ?_); rintro e w20 ⟨rfl, hb⟩; refine ⟨_, rfl, ?_⟩; have n0_ := Aside0.mk (below_step (by repeat (first | (with_reducible first | exact HB.out | apply below_alloc | apply pw_below_drewN | apply below_drew1) | exact HB.out)) hb); clear HB; have HB := n0_; clear n0_; (try clear hb); (try clear hb2); (try clear hk); (try clear hi)) | ((with_reducible refine gate_callee (f := 21) rfl ?_); refine goesL_ (some 39) rfl rfl Try.func21 (by kernel_rfl) rfl #[.int .i64 a0, .int .i64 a1, .string a2, .string a3] rfl (by (try simp only [List.map_toArray, List.map_cons, List.map_nil]); first | done | rfl | (simp only [List.length_drop, List.length_take]; rfl)) ?_; (with_reducible refine (dasdref10_Add.calls kj4 a0 a1 a2 a3 t212 t213 _ A16.out).mono ?_); rintro e w21 ⟨rfl, hb⟩; refine ⟨_, rfl, ?_⟩; have n0_ := Aside0.mk (below_step (by repeat (first | (with_reducible first | exact HB.out | apply below_alloc | apply pw_below_drewN | apply below_drew1) | exact HB.out)) hb); clear HB; have HB := n0_; clear n0_; (try clear hb); (try clear hb2); (try clear hk); (try clear hi)))
          go_ret
          exact ⟨by first | rfl | (simp [errW_none, errW_some] <;> rfl) | (simp [*, errW_none, errW_some] <;> rfl), by repeat (first | (with_reducible first | exact HB.out | apply below_alloc | apply pw_below_drewN | apply below_drew1) | exact HB.out)⟩

/-- THE ONE PURE STATEMENT of dasdlaw10_FixedAdds: yours. -/
def dasdlaw10_FixedAdds.Pure : Prop := ∀ (a0 : Int) (a1 : Int) (a2 : ByteArray) (a3 : ByteArray), (Lit.int .i64 a0).wf = true → (Lit.int .i64 a1).wf = true → a2.size ≤ 140737488351232 → a3.size ≤ 140737488351232 → ∃ k, dasdlaw10_FixedAdds.f k a0 a1 a2 a3 = some true
theorem dasdlaw10_FixedAdds.walk (P : dasdlaw10_FixedAdds.Pure) (a0 : Int) (a1 : Int) (a2 : ByteArray) (a3 : ByteArray) (w : World) (w0 : (Lit.int .i64 a0).wf = true) (w1 : (Lit.int .i64 a1).wf = true) (w2 : a2.size ≤ 140737488351232) (w3 : a3.size ≤ 140737488351232) :
    Calls Try.prog 5 #[.int .i64 a0, .int .i64 a1, .string a2, .string a3] w fun e w' => e = .returned (.bool true) ∧ Below w.heap.size w w' := by
  obtain ⟨k, h⟩ := P a0 a1 a2 a3 w0 w1 w2 w3
  refine (dasdlaw10_FixedAdds.calls k a0 a1 a2 a3 true w h).mono ?_
  rintro e w' ⟨rfl, hd⟩
  exact ⟨rfl, hd⟩

-- OURS: function 27 (strings_Repeat): its contract stands in ExtJoin

/-! ### fixed_Pad: function 22 -/
def fixed_Pad.f (a0 : Int) (a1 : ByteArray) : Option (ByteArray) := if (a1.size : Int) ≥ (mn (mx 0 a0) 1000) then (if 0 ≤ (mn (mx 0 a0) 1000) then (if (mn (mx 0 a0) 1000) ≤ (a1.size : Int) then (some (a1.extract 0 ((mn (mx 0 a0) 1000) : Int).toNat)) else (none)) else (none)) else ((strings_Repeat.f (⟨#[32]⟩ : ByteArray) (wrap64 ((mn (mx 0 a0) 1000) - (a1.size : Int)))).bind fun t214 => (if a1.size + t214.size ≤ 9223372036854775807 then (some (a1 ++ t214)) else (none)))
set_option maxHeartbeats 8000000 in
set_option maxRecDepth 100000 in
theorem fixed_Pad.calls (a0 : Int) (a1 : ByteArray) (r : ByteArray) (w : World) (h : fixed_Pad.f a0 a1 = some r) :
    Calls Try.prog 22 #[.int .i64 a0, .string a1] w fun e w' => e = .returned (.string r) ∧ Below w.heap.size w w' := by
  have HB := Aside0.mk (Below.refl w.heap.size w)
  have H : (if (a1.size : Int) ≥ (mn (mx 0 a0) 1000) then (if 0 ≤ (mn (mx 0 a0) 1000) then (if (mn (mx 0 a0) 1000) ≤ (a1.size : Int) then (some (a1.extract 0 ((mn (mx 0 a0) 1000) : Int).toNat)) else (none)) else (none)) else ((strings_Repeat.f (⟨#[32]⟩ : ByteArray) (wrap64 ((mn (mx 0 a0) 1000) - (a1.size : Int)))).bind fun t214 => (if a1.size + t214.size ≤ 9223372036854775807 then (some (a1 ++ t214)) else (none)))) = some r := h
  clear h
  obtain ⟨ji3, hji3⟩ : ∃ j_ : Int, (mx 0 a0) = j_ := ⟨_, rfl⟩
  replace H : (if (a1.size : Int) ≥ (mn (ji3) 1000) then (if 0 ≤ (mn (ji3) 1000) then (if (mn (ji3) 1000) ≤ (a1.size : Int) then (some (a1.extract 0 ((mn (ji3) 1000) : Int).toNat)) else (none)) else (none)) else ((strings_Repeat.f (⟨#[32]⟩ : ByteArray) (wrap64 ((mn (ji3) 1000) - (a1.size : Int)))).bind fun t214 => (if a1.size + t214.size ≤ 9223372036854775807 then (some (a1 ++ t214)) else (none)))) = some r := by first | (rw [hji3] at H; exact H) | (simp only [hji3] at H ⊢; exact H)
  (try (have hji3l : 0 ≤ ji3 := by (rw [← hji3]; unfold mx; (repeat' split) <;> omega)))
  (try (have hji3m : 0 ≤ ji3 := by omega))
  have hji3_ : (if 0 < a0 then a0 else 0) = ji3 := hji3
  obtain ⟨ji4, hji4⟩ : ∃ j_ : Int, (mn (ji3) 1000) = j_ := ⟨_, rfl⟩
  replace H : (if (a1.size : Int) ≥ (ji4) then (if 0 ≤ (ji4) then (if (ji4) ≤ (a1.size : Int) then (some (a1.extract 0 ((ji4) : Int).toNat)) else (none)) else (none)) else ((strings_Repeat.f (⟨#[32]⟩ : ByteArray) (wrap64 ((ji4) - (a1.size : Int)))).bind fun t214 => (if a1.size + t214.size ≤ 9223372036854775807 then (some (a1 ++ t214)) else (none)))) = some r := by first | (rw [hji4] at H; exact H) | (simp only [hji4] at H ⊢; exact H)
  have hji4_ : (if 1000 < (ji3) then 1000 else (ji3)) = ji4 := hji4
  by_cases c5 : (a1.size : Int) ≥ (ji4)
  · rw [if_pos c5] at H
    have c5b0 : decide ((ji4) ≤ (a1.size : Int)) = true := decide_eq_true c5
    clear c5
    by_cases c6 : 0 ≤ (ji4)
    · rw [if_pos c6] at H
      have c6b0 := eq_true c6
      have c6b1 : decide (0 ≤ (ji4)) = true := decide_eq_true c6
      clear c6
      by_cases c7 : (ji4) ≤ (a1.size : Int)
      · rw [if_pos c7] at H
        have c7b0 := eq_true c7
        have c7b1 : decide ((ji4) ≤ (a1.size : Int)) = true := decide_eq_true c7
        clear c7
        obtain rfl := Option.some.inj H
        go_enter Try.func22, Try.ntmps22
        go_wp2
        go_ret
        exact ⟨by first | rfl | (simp [errW_none, errW_some] <;> rfl) | (simp only [← hji3, ← hji4]; first | rfl | (simp [errW_none, errW_some] <;> rfl)) | (simp [*, errW_none, errW_some] <;> rfl), by repeat (first | (with_reducible first | exact HB.out | apply below_alloc | apply pw_below_drewN | apply below_drew1) | exact HB.out)⟩
      · rw [if_neg c7] at H
        exact absurd H (by simp)
    · rw [if_neg c6] at H
      exact absurd H (by simp)
  · rw [if_neg c5] at H
    have c5b0 : decide ((ji4) ≤ (a1.size : Int)) = false := decide_eq_false c5
    clear c5
    replace H := Option.bind_eq_some_iff.mp H
    obtain ⟨t214, A80, H⟩ := H
    replace H : (if a1.size + t214.size ≤ 9223372036854775807 then (some (a1 ++ t214)) else (none)) = some r := H
    have A8 := Aside0.mk A80
    clear A80
    have hw8 : wrap64 ((ji4) - (a1.size : Int)) = ((ji4) - (a1.size : Int)) := by
      have hx := of_decide_eq_false c5b0
      have hy := hji4_
      unfold wrap64
      split at hy <;> omega
    rw [hw8] at A8
    clear hw8
    by_cases c9 : a1.size + t214.size ≤ 9223372036854775807
    · rw [if_pos c9] at H
      have c9b0 := eq_true c9
      have c9b1 : decide (a1.size + t214.size ≤ 9223372036854775807) = true := decide_eq_true c9
      try have c9b2 : (9223372036854775807 < a1.size + t214.size) = False := eq_false (Nat.not_lt.2 c9)
      obtain rfl := Option.some.inj H
      go_enter Try.func22, Try.ntmps22
      go_wp2_with (first | ((with_reducible refine gate_callee (f := 27) rfl ?_); refine goesL_ (some 20) rfl rfl Try.func27 (by kernel_rfl) rfl #[.string (⟨#[32]⟩ : ByteArray), .int .i64 ((ji4) - (a1.size : Int))] rfl (by (try simp only [List.map_toArray, List.map_cons, List.map_nil]); first | done | (simp only [hji4]; rfl) | rfl | (simp only [List.length_drop, List.length_take]; rfl)) ?_; (with_reducible refine (strings_Repeat.calls (⟨#[32]⟩ : ByteArray) ((ji4) - (a1.size : Int)) t214 _ A8.out).mono ?_); rintro e w10 ⟨rfl, hb⟩; refine ⟨_, rfl, ?_⟩; have n0_ := Aside0.mk (below_step (by repeat (first | (with_reducible first | exact HB.out | apply below_alloc | apply pw_below_drewN | apply below_drew1) | exact HB.out)) hb); clear HB; have HB := n0_; clear n0_; (try clear hb); (try clear hb2); (try clear hk); (try clear hi)))
      go_ret
      exact ⟨by first | rfl | (simp [errW_none, errW_some] <;> rfl) | (simp only [← hji3, ← hji4]; first | rfl | (simp [errW_none, errW_some] <;> rfl)) | (simp [*, errW_none, errW_some] <;> rfl), by repeat (first | (with_reducible first | exact HB.out | apply below_alloc | apply pw_below_drewN | apply below_drew1) | exact HB.out)⟩
    · rw [if_neg c9] at H
      exact absurd H (by simp)

end Go.Proofs.Ytginemabhdjmfaa.XFx
