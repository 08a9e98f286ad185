/- Written by xprint.py, a program of this session: what functions of the program answer, each by a walk of its code; no condition beside those in the statements. -/
import Derived.Test.YtffkgdaookidbaaXNx0
import Derived.Test.YtffkgdaookidbaaXNx21
import Derived.Test.YtffkgdaookidbaaXNx24
import Derived.Test.YtffkgdaookidbaaXNx25
namespace Go.Proofs.Ytffkgdaookidbaa.XNx
open Go.RowKit Go.Proofs.YtffkgdaookidbaaW.PrintWords Go.Proofs.YtffkgdaookidbaaW.PrintLast Go.Proofs.YtffkgdaookidbaaW.PrintMore
attribute [local go_sem] max2_int min2_int max_two min_two max_three min_three max_four min_four   -- for this text's walks alone
open Go.Proofs.Ytffkgdaookidbaa.XW
set_option linter.unusedVariables false
set_option linter.unusedSimpArgs false

/-! ### dasdref20_Decode: function 22 -/
def dasdref20_Decode.l0 : Nat → Int → ByteArray → Int → ByteArray → Int → Int → Int → List (S32) → Option (Int × Int × (List (S32)) × Int)
  | 0, _, _, _, _, _, _, _, _ => none
  | k + 1, x0, x1, x7, x8, x9, x378000, x378001, x378002 => if 5 < (x1.size : Int) then (if x9 < (wrap64 (bt x1 5)) then (if (wrap64 (x7 + 2)) > x0 then (some (0, 0, ([] : List (S32)), 11)) else (if 0 ≤ x7 then (if x7 < (x1.size : Int) then (if 0 ≤ (wrap64 (x7 + 1)) then (if (wrap64 (x7 + 1)) < (x1.size : Int) then (if (wrap64 (bt x1 x7)) > (x8.size : Int) then (some (0, 0, ([] : List (S32)), 11)) else (if (wrap64 ((wrap64 ((wrap64 (x7 + 2)) + (wrap64 (bt x1 (wrap64 (x7 + 1)))))) + 4)) > x0 then (some (0, 0, ([] : List (S32)), 11)) else (if 0 ≤ (wrap64 (bt x1 x7)) then (if (wrap64 (bt x1 x7)) ≤ (x8.size : Int) then (if 0 ≤ (wrap64 (x7 + 2)) then (if (wrap64 (x7 + 2)) ≤ (wrap64 ((wrap64 (x7 + 2)) + (wrap64 (bt x1 (wrap64 (x7 + 1)))))) then (if (wrap64 ((wrap64 (x7 + 2)) + (wrap64 (bt x1 (wrap64 (x7 + 1)))))) ≤ (x1.size : Int) then (if (x8.extract 0 ((wrap64 (bt x1 x7)) : Int).toNat).size + (x1.extract ((wrap64 (x7 + 2)) : Int).toNat ((wrap64 ((wrap64 (x7 + 2)) + (wrap64 (bt x1 (wrap64 (x7 + 1)))))) : Int).toNat).size ≤ 9223372036854775807 then ((some (([] : List (S32)) : List (S32))).bind fun y380 => (if y380.length + x378002.length < 5864062014805 then ((some (y380 ++ x378002 : List (S32))).bind fun y383 => ((dasdref20_number.f x1 (wrap64 ((wrap64 (x7 + 2)) + (wrap64 (bt x1 (wrap64 (x7 + 1))))))).bind fun t386 => (if y383.length < 5864062014805 then (dasdref20_Decode.l0 k x0 x1 (wrap64 ((wrap64 (x7 + 6)) + (wrap64 (bt x1 (wrap64 (x7 + 1)))))) ((x8.extract 0 ((wrap64 (bt x1 x7)) : Int).toNat) ++ (x1.extract ((wrap64 (x7 + 2)) : Int).toNat ((wrap64 ((wrap64 (x7 + 2)) + (wrap64 (bt x1 (wrap64 (x7 + 1)))))) : Int).toNat)) (wrap64 (x9 + 1)) x378000 x378001 (y383 ++ [(⟨(x8.extract 0 ((wrap64 (bt x1 x7)) : Int).toNat) ++ (x1.extract ((wrap64 (x7 + 2)) : Int).toNat ((wrap64 ((wrap64 (x7 + 2)) + (wrap64 (bt x1 (wrap64 (x7 + 1)))))) : Int).toNat), t386⟩ : S32)])) else (none)))) else (none))) else (none)) else (none)) else (none)) else (none)) else (none)) else (none)))) else (none)) else (none)) else (none)) else (none))) else ((dasdref20_Encode.f k x0 x378000 x378001 x378002).bind fun bt378 => (if bt378.2 = 0 then (if bt378.1.toList = x1.toList then (some (x378000, x378001, x378002, 0)) else (some (0, 0, ([] : List (S32)), 11))) else (some (0, 0, ([] : List (S32)), 11))))) else (none)
def dasdref20_Decode.f (k : Nat) (a0 : Int) (a1 : ByteArray) : Option (Int × Int × (List (S32)) × Int) := (dasdref17_IsSize.f a0).bind fun t375 => (if t375 = true then (if (a1.size : Int) = a0 then (if 0 < (a1.size : Int) then ((dasdref20_number.f a1 1).bind fun t376 => (dasdref20_Decode.l0 k a0 a1 6 (⟨#[]⟩ : ByteArray) 0 (wrap64 (bt a1 0)) t376 ([] : List (S32)))) else (none)) else (some (0, 0, ([] : List (S32)), 11))) else (some (0, 0, ([] : List (S32)), 1)))
theorem dasdref20_Decode.mono_l : ∀ k, (∀ y0 y1 y2 y3 y4 y5 y6 y7, LeO (dasdref20_Decode.l0 k y0 y1 y2 y3 y4 y5 y6 y7) (dasdref20_Decode.l0 (k + 1) y0 y1 y2 y3 y4 y5 y6 y7))
  | 0 => fun _ _ _ _ _ _ _ _ r h => by simp [dasdref20_Decode.l0] at h
  | k + 1 => by
    have ih0 := dasdref20_Decode.mono_l k
    · intro y0 y1 y2 y3 y4 y5 y6 y7
      unfold dasdref20_Decode.l0
      repeat' first
      | (with_reducible exact ih0 _ _ _ _ _ _ _ _)
      | (with_reducible exact dasdref20_Encode.mono _ _ _ _ _)
      | (with_reducible exact LeO.refl _)
      | (with_reducible exact LeO.none _)
      | (with_reducible refine LeO.ite ?_ ?_)
      | (with_reducible refine LeO.bind ?_ (fun _ => ?_))
      | exact ih0 _ _ _ _ _ _ _ _
      | exact dasdref20_Encode.mono _ _ _ _ _
      | exact LeO.none _
      | refine LeO.ite ?_ ?_
      | refine LeO.bind ?_ (fun _ => ?_)
theorem dasdref20_Decode.mono : ∀ a0 a1 k, LeO (dasdref20_Decode.f k a0 a1) (dasdref20_Decode.f (k + 1) a0 a1) := by
  intro a0 a1 k
  have ih0 := dasdref20_Decode.mono_l k
  unfold dasdref20_Decode.f
  repeat' first
      | (with_reducible exact ih0 _ _ _ _ _ _ _ _)
      | (with_reducible exact dasdref20_Encode.mono _ _ _ _ _)
      | (with_reducible exact LeO.refl _)
      | (with_reducible exact LeO.none _)
      | (with_reducible refine LeO.ite ?_ ?_)
      | (with_reducible refine LeO.bind ?_ (fun _ => ?_))
      | exact ih0 _ _ _ _ _ _ _ _
      | exact dasdref20_Encode.mono _ _ _ _ _
      | exact LeO.none _
      | refine LeO.ite ?_ ?_
      | refine LeO.bind ?_ (fun _ => ?_)
def dasdref20_Decode.T5 : Bool × List (List Nat × List Nat) := (true, [([], []), ([0], [0]), ([1], [1]), ([], []), ([3], [3]), ([2, 4], [2, 4]), ([], []), ([6, 5, 4, 0, 1, 2, 3, 4, 5, 6], [5, 6])])
def dasdref20_Decode.B5 : List Nat := [0, 1, 3, 0, 8, 31, 0, 127]
theorem dasdref20_Decode.tab5 : rtab .any (opsOf Try.f22 5) = dasdref20_Decode.T5 := by kernel_rfl
theorem dasdref20_Decode.bits5 : waitsOk dasdref20_Decode.T5.2 dasdref20_Decode.B5 = true := by kernel_rfl
def dasdref20_Decode.T12 : Bool × List (List Nat × List Nat) := (true, [([], []), ([], []), ([0, 1], [0, 1]), ([2], [2]), ([], []), ([], []), ([5], [5]), ([4, 6], [4, 6]), ([7], [7]), ([3, 0, 1, 2, 3], [3]), ([8, 9, 0, 1, 2, 3, 4, 5, 6, 7, 8, 9], [8])])
def dasdref20_Decode.B12 : List Nat := [0, 0, 3, 7, 0, 0, 32, 112, 240, 15, 1023]
theorem dasdref20_Decode.tab12 : rtab .any (opsOf Try.f22 12) = dasdref20_Decode.T12 := by kernel_rfl
theorem dasdref20_Decode.bits12 : waitsOk dasdref20_Decode.T12.2 dasdref20_Decode.B12 = true := by kernel_rfl
def dasdref20_Decode.T15 : Bool × List (List Nat × List Nat) := (true, [([], []), ([], []), ([0, 1], [0, 1]), ([], []), ([], []), ([4], [4]), ([], []), ([6], [6]), ([], []), ([7, 8], [7, 8]), ([3, 5, 9], [3, 5, 9]), ([2, 10], [2, 10]), ([11, 0, 1, 2, 3, 4, 5, 6, 7, 8, 9, 10, 11], [0, 11])])
def dasdref20_Decode.B15 : List Nat := [0, 0, 3, 0, 0, 16, 0, 64, 0, 448, 1016, 2047, 4095]
theorem dasdref20_Decode.tab15 : rtab .any (opsOf Try.f22 15) = dasdref20_Decode.T15 := by kernel_rfl
theorem dasdref20_Decode.bits15 : waitsOk dasdref20_Decode.T15.2 dasdref20_Decode.B15 = true := by kernel_rfl
set_option maxHeartbeats 8000000 in
set_option maxRecDepth 100000 in
theorem dasdref20_Decode.calls (k : Nat) (a0 : Int) (a1 : ByteArray) (r1 : Int) (r2 : Int) (r3 : List (S32)) (r4 : Int) (w : World) (h : dasdref20_Decode.f k a0 a1 = some (r1, r2, r3, r4)) :
    Calls Try.prog 22 #[.int .i64 a0, .string a1] w fun e w' => ∃ v2_ : Value, e = .returned (.tuple #[.agg #[.int .i64 r1, .int .i64 r2, v2_], .int .i64 r4]) ∧ Kd.R k32 32 w' w.heap.size (fun _ => True) v2_ r3 ∧ Below w.heap.size w w' := by
  have hu24 := Try.underlying24
  have hu32 := Try.underlying32
  have HB := Aside0.mk (Below.refl w.heap.size w)
  have H : ((dasdref17_IsSize.f a0).bind fun t375 => (if t375 = true then (if (a1.size : Int) = a0 then (if 0 < (a1.size : Int) then ((dasdref20_number.f a1 1).bind fun t376 => (dasdref20_Decode.l0 k a0 a1 6 (⟨#[]⟩ : ByteArray) 0 (wrap64 (bt a1 0)) t376 ([] : List (S32)))) else (none)) else (some (0, 0, ([] : List (S32)), 11))) else (some (0, 0, ([] : List (S32)), 1)))) = some (r1, r2, r3, r4) := h
  clear h
  replace H := Option.bind_eq_some_iff.mp H
  obtain ⟨t375, A30, H⟩ := H
  replace H : (if t375 = true then (if (a1.size : Int) = a0 then (if 0 < (a1.size : Int) then ((dasdref20_number.f a1 1).bind fun t376 => (dasdref20_Decode.l0 k a0 a1 6 (⟨#[]⟩ : ByteArray) 0 (wrap64 (bt a1 0)) t376 ([] : List (S32)))) else (none)) else (some (0, 0, ([] : List (S32)), 11))) else (some (0, 0, ([] : List (S32)), 1))) = some (r1, r2, r3, r4) := H
  have A3 := Aside0.mk A30
  clear A30
  by_cases c4 : t375 = true
  · subst c4
    have H1 : (if (a1.size : Int) = a0 then (if 0 < (a1.size : Int) then ((dasdref20_number.f a1 1).bind fun t376 => (dasdref20_Decode.l0 k a0 a1 6 (⟨#[]⟩ : ByteArray) 0 (wrap64 (bt a1 0)) t376 ([] : List (S32)))) else (none)) else (some (0, 0, ([] : List (S32)), 11))) = some (r1, r2, r3, r4) := by rw [if_pos rfl] at H; exact H
    clear H
    have H := H1
    clear H1
    by_cases c5 : (a1.size : Int) = a0
    · rw [if_pos c5] at H
      have c5b0 : ((a1.size : Int) == a0) = true := beq_iff_eq.mpr c5
      have c5b1 : ((a1.size : Int) != a0) = false := bne_eq_false_iff_eq.mpr c5
      clear c5
      by_cases c6 : 0 < (a1.size : Int)
      · rw [if_pos c6] at H
        have c6b0 : decide (0 < (a1.size : Int)) = true := decide_eq_true c6
        have c6b1 : decide (0 < a1.size) = true := decide_eq_true (by omega)
        clear c6
        replace H := Option.bind_eq_some_iff.mp H
        obtain ⟨t376, A80, H⟩ := H
        replace H : (dasdref20_Decode.l0 k a0 a1 6 (⟨#[]⟩ : ByteArray) 0 (wrap64 (bt a1 0)) t376 ([] : List (S32))) = some (r1, r2, r3, r4) := H
        have A8 := Aside0.mk A80
        clear A80
        have H' := Aside0.mk H
        clear H
        go_enter Try.func22, Try.ntmps22
        try go_wp2_with (first | ((with_reducible refine gate_dst (N := 4) rfl ?_); refine box_event ?hg (N := 4) ?hd (cs := #[.int .i64 0, .int .i64 0, .slice none 0 0]) (t := 24) ?hr ?_; (case hd => rfl); (case hg => rfl); (case hr => first | (go_simp; done) | (go_simp; rfl)); intro gb374 hg w9 hbox hb; have n0_ := Aside0.mk (below_step (by repeat (first | (with_reducible first | exact HB.out | apply below_alloc | apply pw_below_drewN | apply below_drew1) | exact HB.out)) hb); have n1_ := Aside0.mk (hbox); have n2_ := Aside0.mk ((by rw [hg]; exact (below_size (by repeat (first | (with_reducible first | exact HB.out | apply below_alloc | apply pw_below_drewN | apply below_drew1) | exact HB.out))) : w.heap.size ≤ gb374)); have n3_ := Aside0.mk ((by rw [hg]; exact (below_size (by repeat (first | (with_reducible first | exact HB.out | apply below_alloc | apply pw_below_drewN | apply below_drew1) | exact HB.out))) : w.heap.size ≤ gb374)); clear HB; have HB := n0_; have BK374 := n1_; have GW374 := n2_; have GE374 := n3_; clear n0_ n1_ n2_ n3_; clear hb hbox hg) | ((with_reducible refine gate_callee (f := 39) rfl ?_); refine goesL_ (some 15) rfl rfl Try.func39 (by kernel_rfl) rfl #[.int .i64 a0] rfl (by (try simp only [List.map_toArray, List.map_cons, List.map_nil]); first | done | rfl | (simp only [List.length_drop, List.length_take]; rfl)) ?_; (with_reducible refine (dasdref17_IsSize.calls a0 true _ A3.out).mono ?_); rintro e w' ⟨rfl, ⟨nd, rfl⟩⟩; refine ⟨_, rfl, ?_⟩; (try (rw [drewN_self w9]; generalize hq_ : World.drewN w9 _ = w9; have n0_ : Aside0 (w9.heap[gb374]? = some (.cells #[.int .i64 0, .int .i64 0, .slice none 0 0] 24 (0, 0))) := ⟨by rw [← hq_]; exact (by (with_reducible repeat (first | refine blk_drewN ?_ _ | refine blk_drew ?_ | refine blk_alloc ?_ _)); exact BK374.out)⟩; have n1_ : Aside0 (Below w.heap.size w w9) := ⟨by rw [← hq_]; exact (by repeat (first | (with_reducible first | exact HB.out | apply below_alloc | apply pw_below_drewN | apply below_drew1 | refine below_set ?_ GE374.out) | exact HB.out))⟩; clear BK374 HB hq_; have BK374 := n0_; have HB := n1_; clear n0_ n1_))))
        have n0_ := Aside0.mk (blk_drew BK374.out)
        have n1_ := Aside0.mk (below_drew1 HB.out)
        clear BK374
        clear HB
        have BK374 := n0_
        have HB := n1_
        clear n0_ n1_
        have p7 : 0 ≤ (0 : Int) := (by omega)
        have q7 : 0 < a1.size := (by have : (0 : Int) < (a1.size : Int) := of_decide_eq_true (by first | (with_reducible assumption) | assumption); omega)
        have hx7 : ∀ h : 0 < a1.size, ((a1[0]'h).toNat : Int) = bt a1 0 := bt_at a1 0
        clear p7
        have qi7 : (0 < (a1.size : Int)) = True := eq_true (of_decide_eq_true (by first | (with_reducible assumption) | assumption))
        replace q7 := eq_true q7
        refine start_ (n := 8) (S := fun w' => True) (ds := []) #[false, false, false, false, false, false, false, false] (by kernel_rfl) rfl rfl trivial (fun hHeld => ?_); refine with_tabW dasdref20_Decode.tab5 dasdref20_Decode.bits5 (fun HT_ HW_ => ?_)
        generalize w9.drew = w10 at BK374 HB hHeld ⊢
        refine pure_ (i := 0) (N := some 23) (v := ?_) (a' := ?_) #[true, false, false, false, false, false, false, false] rfl rfl (any_of HT_.out (by kernel_rfl)) (fun _ _ _ h => h) (Or.inl ⟨by rfl, ?_⟩) ?_ ?_
        rotate_left
        · intro w'
          go_simp
          with_reducible rfl
        rotate_left
        · simp only [Act.put, List.setIfInBounds_toArray, List.set_cons_zero, List.set_cons_succ, i64_w, i32_w]
          rfl
        refine pure_ (i := 3) (N := some 26) (v := ?_) (a' := ?_) #[true, false, false, true, false, false, false, false] rfl rfl (any_of HT_.out (by kernel_rfl)) (fun _ _ _ h => h) (Or.inl ⟨by rfl, ?_⟩) ?_ ?_
        rotate_left
        · intro w'
          go_simp
          with_reducible rfl
        rotate_left
        · simp only [Act.put, List.setIfInBounds_toArray, List.set_cons_zero, List.set_cons_succ, i64_w, i32_w]
          rfl
        refine take_ (i := 1) (N := some 24) (v := ?_) (a' := ?_) #[true, true, false, true, false, false, false, false] rfl rfl (take_ofW HT_.out HW_.out (by kernel_rfl)) (fun _ _ _ h => h) (Or.inl ⟨by rfl, ?_⟩) hHeld ?_ ?_
        rotate_left
        · intro w' _
          go_simp
          with_reducible rfl
        rotate_left
        · simp only [Act.put, List.setIfInBounds_toArray, List.set_cons_zero, List.set_cons_succ, i64_w, i32_w]
          rfl
        refine pure_ (i := 2) (N := some 25) (v := ?_) (a' := ?_) #[true, true, true, true, false, false, false, false] rfl rfl (any_of HT_.out (by kernel_rfl)) (fun _ _ _ h => h) (Or.inl ⟨by rfl, ?_⟩) ?_ ?_
        rotate_left
        · intro w'
          go_simp
          with_reducible rfl
        rotate_left
        · simp only [Act.put, List.setIfInBounds_toArray, List.set_cons_zero, List.set_cons_succ, i64_w, i32_w]
          rfl
        refine join_ (σ := Nat) 1 #[true, true, true, true, true, true, true, false] (fun s_ => [(27, .int .i64 t376), (6, .pointer (some ⟨s_, 0, none⟩)), (28, .agg #[.int .i64 (wrap64 (bt a1 0)), .int .i64 t376, .slice none 0 0])]) (fun s_ w' => (w'.heap[gb374]? = some (.cells #[.int .i64 0, .int .i64 0, .slice none 0 0] 24 (0, 0))) ∧ (w'.heap[s_]? = some (.cells #[.int .i64 0, .int .i64 0, .slice none 0 0] 24 (0, 0))) ∧ (w.heap.size ≤ s_) ∧ (w.heap.size ≤ s_) ∧ (gb374 ≠ s_) ∧ (s_ ≠ gb374) ∧ (Below w.heap.size w w')) ?_ ?_
        rotate_left
        · intro hCont
          refine two_ (i := 4) (j := 6) (Ni := some 27) (Nj := some 6) #[true, true, true, true, true, false, false, false] #[true, true, true, true, false, false, true, false] rfl rfl rfl rfl (two_of HT_.out (by kernel_rfl)) (by decide) (by decide) (fun K hK => ?_) (fun K hK => ?_)
          · skip
            refine goes_ Try.func40 (by kernel_rfl) rfl #[.string a1, .int .i64 1] (by rfl) rfl rfl (by (try simp only [List.map_toArray, List.map_cons, List.map_nil]); first | done | rfl | (simp only [List.length_drop, List.length_take]; rfl)) ?_
            with_reducible refine (dasdref20_number.calls a1 1 t376 _ A8.out).mono ?_
            rintro e w' ⟨rfl, ⟨nd, rfl⟩⟩
            refine ⟨_, rfl, ?_⟩
            refine hK.out _ _ trivial (fun hHeld => ?_)
            clear hK K
            refine norm_ (a' := ?_) ?_ ?_
            rotate_left
            · show Act.put _ (some 27) _ = _
              simp only [Act.put, List.setIfInBounds_toArray, List.set_cons_zero, List.set_cons_succ, i64_w, i32_w]
              rfl
            refine pure_ (i := 5) (N := some 28) (v := ?_) (a' := ?_) #[true, true, true, true, true, true, false, false] rfl rfl (any_of HT_.out (by kernel_rfl)) (fun _ _ _ h => h) (Or.inl ⟨by rfl, ?_⟩) ?_ ?_
            rotate_left
            · intro w'
              go_simp
              with_reducible rfl
            rotate_left
            · simp only [Act.put, List.setIfInBounds_toArray, List.set_cons_zero, List.set_cons_succ, i64_w, i32_w]
              rfl
            refine one_ (i := 6) (N := some 6) #[true, true, true, true, true, true, true, false] rfl rfl (one_of HT_.out (by kernel_rfl)) (by decide) (fun K hK => ?_)
            refine box_step ?hg (N := 6) ?hd (cs := #[.int .i64 0, .int .i64 0, .slice none 0 0]) (t := 24) ?hr ?_; (case hd => rfl); (case hg => rfl); (case hr => first | (go_simp; done) | (go_simp; rfl))
            intro gb377 hg w11 hbox hb
            have n0_ := Aside0.mk (blk_below (g := gb374) (o := .cells #[.int .i64 0, .int .i64 0, .slice none 0 0] 24 (0, 0)) (by (with_reducible repeat (first | refine blk_drewN ?_ _ | refine blk_drew ?_ | refine blk_alloc ?_ _)); exact BK374.out) hb)
            have n1_ := Aside0.mk (below_step (by repeat (first | (with_reducible first | exact HB.out | apply below_alloc | apply pw_below_drewN | apply below_drew1 | refine below_set ?_ GE374.out) | exact HB.out)) hb)
            have n2_ := Aside0.mk (hbox)
            have n3_ := Aside0.mk ((by rw [hg]; exact (below_size (by repeat (first | (with_reducible first | exact HB.out | apply below_alloc | apply pw_below_drewN | apply below_drew1 | refine below_set ?_ GE374.out) | exact HB.out))) : w.heap.size ≤ gb377))
            have n4_ := Aside0.mk ((by rw [hg]; exact (below_size (by repeat (first | (with_reducible first | exact HB.out | apply below_alloc | apply pw_below_drewN | apply below_drew1 | refine below_set ?_ GE374.out) | exact HB.out))) : w.heap.size ≤ gb377))
            have n5_ := Aside0.mk ((by rw [hg]; exact Nat.ne_of_lt (blk_lt (g := gb374) (o := .cells #[.int .i64 0, .int .i64 0, .slice none 0 0] 24 (0, 0)) (by (with_reducible repeat (first | refine blk_drewN ?_ _ | refine blk_drew ?_ | refine blk_alloc ?_ _)); exact BK374.out)) : gb374 ≠ gb377))
            have n6_ := Aside0.mk ((by rw [hg]; exact Nat.ne_of_gt (blk_lt (g := gb374) (o := .cells #[.int .i64 0, .int .i64 0, .slice none 0 0] 24 (0, 0)) (by (with_reducible repeat (first | refine blk_drewN ?_ _ | refine blk_drew ?_ | refine blk_alloc ?_ _)); exact BK374.out)) : gb377 ≠ gb374))
            clear BK374
            clear HB
            have BK374 := n0_
            have HB := n1_
            have BK377 := n2_
            have GW377 := n3_
            have GE377 := n4_
            have NB374_377 := n5_
            have NB377_374 := n6_
            clear n0_ n1_ n2_ n3_ n4_ n5_ n6_
            clear hb hbox hg
            refine hK.out _ _ trivial (fun hHeld => ?_)
            clear hK K
            refine norm_ (a' := ?_) ?_ ?_
            rotate_left
            · show Act.put _ (some 6) _ = _
              simp only [Act.put, List.setIfInBounds_toArray, List.set_cons_zero, List.set_cons_succ, i64_w, i32_w]
              rfl
            exact norm_ (by simp only [putAll, Act.put, List.setIfInBounds_toArray, List.set_cons_zero, List.set_cons_succ]) (hCont (gb377) _ ⟨(by (with_reducible repeat (first | refine blk_drewN ?_ _ | refine blk_drew ?_ | refine blk_alloc ?_ _)); exact BK374.out), (by (with_reducible repeat (first | refine blk_drewN ?_ _ | refine blk_drew ?_ | refine blk_alloc ?_ _)); exact BK377.out), GW377.out, GE377.out, NB374_377.out, NB377_374.out, (by repeat (first | (with_reducible first | exact HB.out | apply below_alloc | apply pw_below_drewN | apply below_drew1 | refine below_set ?_ GE374.out | refine below_set ?_ GE377.out) | exact HB.out))⟩)
          · skip
            refine box_step ?hg (N := 6) ?hd (cs := #[.int .i64 0, .int .i64 0, .slice none 0 0]) (t := 24) ?hr ?_; (case hd => rfl); (case hg => rfl); (case hr => first | (go_simp; done) | (go_simp; rfl))
            intro gb377 hg w11 hbox hb
            have n0_ := Aside0.mk (blk_below (g := gb374) (o := .cells #[.int .i64 0, .int .i64 0, .slice none 0 0] 24 (0, 0)) (by (with_reducible repeat (first | refine blk_drewN ?_ _ | refine blk_drew ?_ | refine blk_alloc ?_ _)); exact BK374.out) hb)
            have n1_ := Aside0.mk (below_step (by repeat (first | (with_reducible first | exact HB.out | apply below_alloc | apply pw_below_drewN | apply below_drew1 | refine below_set ?_ GE374.out) | exact HB.out)) hb)
            have n2_ := Aside0.mk (hbox)
            have n3_ := Aside0.mk ((by rw [hg]; exact (below_size (by repeat (first | (with_reducible first | exact HB.out | apply below_alloc | apply pw_below_drewN | apply below_drew1 | refine below_set ?_ GE374.out) | exact HB.out))) : w.heap.size ≤ gb377))
            have n4_ := Aside0.mk ((by rw [hg]; exact (below_size (by repeat (first | (with_reducible first | exact HB.out | apply below_alloc | apply pw_below_drewN | apply below_drew1 | refine below_set ?_ GE374.out) | exact HB.out))) : w.heap.size ≤ gb377))
            have n5_ := Aside0.mk ((by rw [hg]; exact Nat.ne_of_lt (blk_lt (g := gb374) (o := .cells #[.int .i64 0, .int .i64 0, .slice none 0 0] 24 (0, 0)) (by (with_reducible repeat (first | refine blk_drewN ?_ _ | refine blk_drew ?_ | refine blk_alloc ?_ _)); exact BK374.out)) : gb374 ≠ gb377))
            have n6_ := Aside0.mk ((by rw [hg]; exact Nat.ne_of_gt (blk_lt (g := gb374) (o := .cells #[.int .i64 0, .int .i64 0, .slice none 0 0] 24 (0, 0)) (by (with_reducible repeat (first | refine blk_drewN ?_ _ | refine blk_drew ?_ | refine blk_alloc ?_ _)); exact BK374.out)) : gb377 ≠ gb374))
            clear BK374
            clear HB
            have BK374 := n0_
            have HB := n1_
            have BK377 := n2_
            have GW377 := n3_
            have GE377 := n4_
            have NB374_377 := n5_
            have NB377_374 := n6_
            clear n0_ n1_ n2_ n3_ n4_ n5_ n6_
            clear hb hbox hg
            refine hK.out _ _ trivial (fun hHeld => ?_)
            clear hK K
            refine norm_ (a' := ?_) ?_ ?_
            rotate_left
            · show Act.put _ (some 6) _ = _
              simp only [Act.put, List.setIfInBounds_toArray, List.set_cons_zero, List.set_cons_succ, i64_w, i32_w]
              rfl
            refine one_ (i := 4) (N := some 27) #[true, true, true, true, true, false, true, false] rfl rfl (one_of HT_.out (by kernel_rfl)) (by decide) (fun K hK => ?_)
            refine goes_ Try.func40 (by kernel_rfl) rfl #[.string a1, .int .i64 1] (by rfl) rfl rfl (by (try simp only [List.map_toArray, List.map_cons, List.map_nil]); first | done | rfl | (simp only [List.length_drop, List.length_take]; rfl)) ?_
            with_reducible refine (dasdref20_number.calls a1 1 t376 _ A8.out).mono ?_
            rintro e w' ⟨rfl, ⟨nd, rfl⟩⟩
            refine ⟨_, rfl, ?_⟩
            refine hK.out _ _ trivial (fun hHeld => ?_)
            clear hK K
            refine norm_ (a' := ?_) ?_ ?_
            rotate_left
            · show Act.put _ (some 27) _ = _
              simp only [Act.put, List.setIfInBounds_toArray, List.set_cons_zero, List.set_cons_succ, i64_w, i32_w]
              rfl
            refine pure_ (i := 5) (N := some 28) (v := ?_) (a' := ?_) #[true, true, true, true, true, true, true, false] rfl rfl (any_of HT_.out (by kernel_rfl)) (fun _ _ _ h => h) (Or.inl ⟨by rfl, ?_⟩) ?_ ?_
            rotate_left
            · intro w'
              go_simp
              with_reducible rfl
            rotate_left
            · simp only [Act.put, List.setIfInBounds_toArray, List.set_cons_zero, List.set_cons_succ, i64_w, i32_w]
              rfl
            exact norm_ (by simp only [putAll, Act.put, List.setIfInBounds_toArray, List.set_cons_zero, List.set_cons_succ]) (hCont (gb377) _ ⟨(by (with_reducible repeat (first | refine blk_drewN ?_ _ | refine blk_drew ?_ | refine blk_alloc ?_ _)); exact BK374.out), (by (with_reducible repeat (first | refine blk_drewN ?_ _ | refine blk_drew ?_ | refine blk_alloc ?_ _)); exact BK377.out), GW377.out, GE377.out, NB374_377.out, NB377_374.out, (by repeat (first | (with_reducible first | exact HB.out | apply below_alloc | apply pw_below_drewN | apply below_drew1 | refine below_set ?_ GE374.out | refine below_set ?_ GE377.out) | exact HB.out))⟩)
        rintro gb377 w12 ⟨h0_, h1_, h2_, h3_, h4_, h5_, h6_⟩
        have n0_ : Aside0 (w12.heap[gb374]? = some (.cells #[.int .i64 0, .int .i64 0, .slice none 0 0] 24 (0, 0))) := ⟨h0_⟩
        have n1_ : Aside0 (w12.heap[gb377]? = some (.cells #[.int .i64 0, .int .i64 0, .slice none 0 0] 24 (0, 0))) := ⟨h1_⟩
        have n2_ : Aside0 (w.heap.size ≤ gb377) := ⟨h2_⟩
        have n3_ : Aside0 (w.heap.size ≤ gb377) := ⟨h3_⟩
        have n4_ : Aside0 (gb374 ≠ gb377) := ⟨h4_⟩
        have n5_ : Aside0 (gb377 ≠ gb374) := ⟨h5_⟩
        have n6_ : Aside0 (Below w.heap.size w w12) := ⟨h6_⟩
        clear BK374
        clear HB
        clear h0_ h1_ h2_ h3_ h4_ h5_ h6_
        have BK374 := n0_
        have BK377 := n1_
        have GW377 := n2_
        have GE377 := n3_
        have NB374_377 := n4_
        have NB377_374 := n5_
        have HB := n6_
        clear n0_ n1_ n2_ n3_ n4_ n5_ n6_
        have hHeld := trivial
        refine norm_ (a' := ?_) ?_ ?_
        rotate_left
        · simp only [putAll, Act.put, List.setIfInBounds_toArray, List.set_cons_zero, List.set_cons_succ]
          rfl
        refine one_ (i := 7) (N := none) #[true, true, true, true, true, true, true, true] rfl rfl (one_of HT_.out (by kernel_rfl)) (by decide) (fun K hK => ?_)
        have hs13 : w12.cell? ⟨gb377, 0, none⟩ = some (.int .i64 0) := (blk_cell BK377.out 0).trans rfl
        have hfs13 := blk_frozen BK377.out 0
        have hns13_0 := NB374_377.out
        have hms13_0 := NB377_374.out
        have hs14 : w12.cell? ⟨gb377, 1, none⟩ = some (.int .i64 0) := (blk_cell BK377.out 1).trans rfl
        have hfs14 := blk_frozen BK377.out 1
        have hns14_0 := NB374_377.out
        have hms14_0 := NB377_374.out
        have hs15 : w12.cell? ⟨gb377, 2, none⟩ = some (.slice none 0 0) := (blk_cell BK377.out 2).trans rfl
        have hfs15 := blk_frozen BK377.out 2
        have hns15_0 := NB374_377.out
        have hms15_0 := NB377_374.out
        refine skip_ (w1 := ?_) (by rfl) rfl ?_ ?_
        rotate_left
        · go_simp
          rfl
        refine hK.out _ _ trivial (fun hHeld => ?_)
        clear hK K
        refine done_ (done_of HT_.out (by kernel_rfl)) ?_
        try go_wp2
        go_loopg [7, 8, 9] k (fun kq v7 v8 v9 w' => ∃ (x7_1 : Int) (x8_1 : ByteArray) (x9_1 : Int) (x375000_1 : Int) (x375001_1 : Int) (x378002_1 : List (S32)) (u378002 : Value), v7 = .int .i64 x7_1 ∧ v8 = .string x8_1 ∧ v9 = .int .i64 x9_1 ∧ Aside0 (dasdref20_Decode.l0 kq a0 a1 x7_1 x8_1 x9_1 (wrap64 (bt a1 0)) t376 x378002_1 = some (r1, r2, r3, r4)) ∧ Aside0 (kq ≤ k) ∧ Aside0 (Kd.R k32 32 w' w.heap.size (fun _ => True) u378002 x378002_1) ∧ Aside0 (w'.heap[gb374]? = some (.cells #[.int .i64 x375000_1, .int .i64 x375001_1, (.slice none 0 0)] 24 (0, 0))) ∧ Aside0 (w'.heap[gb377]? = some (.cells #[.int .i64 (wrap64 (bt a1 0)), .int .i64 t376, u378002] 24 (0, 0))) ∧ Aside0 (Below w.heap.size w w'))
        case atStart => exact ⟨(6), ((⟨#[]⟩ : ByteArray)), (0), (0), (0), (([] : List (S32))), (.slice none 0 0), (by first | rfl | (simp; done) | (simp [*]; done)), (by first | rfl | (simp; done) | (simp [*]; done)), (by first | rfl | (simp; done) | (simp [*]; done)), H', ⟨Nat.le_refl _⟩, ⟨by first | exact Kd.R_nil _ _ _ _ _ | exact Kd.N_nil _ _ _ _ _ | exact Kd.V_nil _ _ _ _ _ | exact Kd.Q_nil _ _ _ _ _ | exact Kd.S_nil _ _ _ _ _⟩, ⟨by (with_reducible repeat (first | refine blk_drewN ?_ _ | refine blk_drew ?_ | refine blk_alloc ?_ _)); refine blk_far ?_ NB374_377.out _; (with_reducible repeat (first | refine blk_drewN ?_ _ | refine blk_drew ?_ | refine blk_alloc ?_ _)); refine blk_far ?_ NB374_377.out _; (with_reducible repeat (first | refine blk_drewN ?_ _ | refine blk_drew ?_ | refine blk_alloc ?_ _)); refine blk_far ?_ NB374_377.out _; (with_reducible repeat (first | refine blk_drewN ?_ _ | refine blk_drew ?_ | refine blk_alloc ?_ _)); exact BK374.out⟩, ⟨by (with_reducible repeat (first | refine blk_drewN ?_ _ | refine blk_drew ?_ | refine blk_alloc ?_ _)); refine blk_put (cs := #[.int .i64 (wrap64 (bt a1 0)), .int .i64 t376, .slice none 0 0]) ?_ 2 _ rfl; (with_reducible repeat (first | refine blk_drewN ?_ _ | refine blk_drew ?_ | refine blk_alloc ?_ _)); refine blk_put (cs := #[.int .i64 (wrap64 (bt a1 0)), .int .i64 0, .slice none 0 0]) ?_ 1 _ rfl; (with_reducible repeat (first | refine blk_drewN ?_ _ | refine blk_drew ?_ | refine blk_alloc ?_ _)); refine blk_put (cs := #[.int .i64 0, .int .i64 0, .slice none 0 0]) ?_ 0 _ rfl; (with_reducible repeat (first | refine blk_drewN ?_ _ | refine blk_drew ?_ | refine blk_alloc ?_ _)); exact BK377.out⟩, ⟨by repeat (first | (with_reducible first | exact HB.out | apply below_alloc | apply pw_below_drewN | apply below_drew1 | refine below_set ?_ GE374.out | refine below_set ?_ GE377.out) | exact HB.out)⟩⟩
        case round =>
          clear H'
          try clear c2
          try clear p2
          try clear c3
          try clear c4
          try clear c5
          try clear c5b0
          try clear c5b1
          try clear c6
          try clear c6b0
          try clear c6b1
          try clear p6
          try clear p7
          try clear q7
          try clear hx7
          try clear qi7
          try clear p7
          try clear q7
          obtain ⟨x7_1, x8_1, x9_1, x375000_1, x375001_1, x378002_1, u378002, rfl, rfl, rfl, HA, HK1, HO_378002, BK374, BK377, HB⟩ := hrel
          cases gk with
          | zero => exact absurd HA.out (by simp [dasdref20_Decode.l0])
          | succ k1 =>
            have H := HA.out
            clear HA
            simp only [dasdref20_Decode.l0] at H
            by_cases c16 : 5 < (a1.size : Int)
            · rw [if_pos c16] at H
              have c16b0 : decide (5 < (a1.size : Int)) = true := decide_eq_true c16
              have c16b1 : decide (5 < a1.size) = true := decide_eq_true (by omega)
              clear c16
              by_cases c18 : x9_1 < (wrap64 (bt a1 5))
              · rw [if_pos c18] at H
                have c18b0 : decide (x9_1 < (wrap64 (bt a1 5))) = true := decide_eq_true c18
                clear c18
                by_cases c19 : (wrap64 (x7_1 + 2)) > a0
                · rw [if_pos c19] at H
                  have c19b0 : decide (a0 < (wrap64 (x7_1 + 2))) = true := decide_eq_true c19
                  clear c19
                  simp only [Option.some.injEq, Prod.mk.injEq] at H
                  obtain ⟨rfl, rfl, rfl, rfl⟩ := H
                  have p17 : 0 ≤ (5 : Int) := (by omega)
                  have q17 : 5 < a1.size := (by have : (5 : Int) < (a1.size : Int) := of_decide_eq_true (by first | (with_reducible assumption) | assumption); omega)
                  have hx17 : ∀ h : 5 < a1.size, ((a1[5]'h).toNat : Int) = bt a1 5 := bt_at a1 5
                  clear p17
                  have qi17 : (5 < (a1.size : Int)) = True := eq_true (of_decide_eq_true (by first | (with_reducible assumption) | assumption))
                  replace q17 := eq_true q17
                  have hnb20 := NB374_377.out
                  have hnc20 := NB377_374.out
                  have hcz21_0 : wr.cell? ⟨gb374, 0, none⟩ = some (.int .i64 x375000_1) := (blk_cell BK374.out 0).trans rfl
                  have hcz21_1 : wr.cell? ⟨gb374, 1, none⟩ = some (.int .i64 x375001_1) := (blk_cell BK374.out 1).trans rfl
                  have hcz21_2 : wr.cell? ⟨gb374, 2, none⟩ = some (.slice none 0 0) := (blk_cell BK374.out 2).trans rfl
                  have hfz21_0 := blk_frozen BK374.out 0
                  have hfz21_1 := blk_frozen BK374.out 1
                  have hfz21_2 := blk_frozen BK374.out 2
                  go_wp2
                  refine bodyPost_ret (results_ct rfl _ _ gb374 24 #[.int .i64 0, .int .i64 0, .slice none 0 0] (0, 0) _ rfl (by (with_reducible repeat (first | refine blk_drewN ?_ _ | refine blk_drew ?_ | refine blk_alloc ?_ _)); refine blk_put (cs := #[.int .i64 0, .int .i64 0, .slice none 0 0]) ?_ 2 _ rfl; (with_reducible repeat (first | refine blk_drewN ?_ _ | refine blk_drew ?_ | refine blk_alloc ?_ _)); refine blk_put (cs := #[.int .i64 0, .int .i64 x375001_1, .slice none 0 0]) ?_ 1 _ rfl; (with_reducible repeat (first | refine blk_drewN ?_ _ | refine blk_drew ?_ | refine blk_alloc ?_ _)); refine blk_put (cs := #[.int .i64 x375000_1, .int .i64 x375001_1, .slice none 0 0]) ?_ 0 _ rfl; (with_reducible repeat (first | refine blk_drewN ?_ _ | refine blk_drew ?_ | refine blk_alloc ?_ _)); exact BK374.out) Try.underlying24 rfl (by kernel_rfl)) rfl ?_
                  exact ⟨_, by first | rfl | (simp [errW_none, errW_some] <;> rfl) | (simp [*, errW_none, errW_some] <;> rfl), by first | exact Kd.R_nil _ _ _ _ _ | exact Kd.N_nil _ _ _ _ _ | exact Kd.V_nil _ _ _ _ _ | exact Kd.Q_nil _ _ _ _ _ | exact Kd.S_nil _ _ _ _ _, by repeat (first | (with_reducible first | exact HB.out | apply below_alloc | apply pw_below_drewN | apply below_drew1 | refine below_set ?_ GE374.out | refine below_set ?_ GE377.out) | exact HB.out)⟩
                · rw [if_neg c19] at H
                  have c19b0 : decide (a0 < (wrap64 (x7_1 + 2))) = false := decide_eq_false c19
                  clear c19
                  by_cases c22 : 0 ≤ x7_1
                  · rw [if_pos c22] at H
                    have c22b0 : decide (0 ≤ x7_1) = true := decide_eq_true c22
                    clear c22
                    by_cases c23 : x7_1 < (a1.size : Int)
                    · rw [if_pos c23] at H
                      have c23b0 : decide (x7_1 < (a1.size : Int)) = true := decide_eq_true c23
                      clear c23
                      obtain ⟨ji25, hji25⟩ : ∃ j_ : Int, (wrap64 (x7_1 + 1)) = j_ := ⟨_, rfl⟩
                      replace H : (if 0 ≤ (ji25) then (if (ji25) < (a1.size : Int) then (if (wrap64 (bt a1 x7_1)) > (x8_1.size : Int) then (some (0, 0, ([] : List (S32)), 11)) else (if (wrap64 ((wrap64 ((wrap64 (x7_1 + 2)) + (wrap64 (bt a1 (ji25))))) + 4)) > a0 then (some (0, 0, ([] : List (S32)), 11)) else (if 0 ≤ (wrap64 (bt a1 x7_1)) then (if (wrap64 (bt a1 x7_1)) ≤ (x8_1.size : Int) then (if 0 ≤ (wrap64 (x7_1 + 2)) then (if (wrap64 (x7_1 + 2)) ≤ (wrap64 ((wrap64 (x7_1 + 2)) + (wrap64 (bt a1 (ji25))))) then (if (wrap64 ((wrap64 (x7_1 + 2)) + (wrap64 (bt a1 (ji25))))) ≤ (a1.size : Int) then (if (x8_1.extract 0 ((wrap64 (bt a1 x7_1)) : Int).toNat).size + (a1.extract ((wrap64 (x7_1 + 2)) : Int).toNat ((wrap64 ((wrap64 (x7_1 + 2)) + (wrap64 (bt a1 (ji25))))) : Int).toNat).size ≤ 9223372036854775807 then ((some (([] : List (S32)) : List (S32))).bind fun y380 => (if y380.length + x378002_1.length < 5864062014805 then ((some (y380 ++ x378002_1 : List (S32))).bind fun y383 => ((dasdref20_number.f a1 (wrap64 ((wrap64 (x7_1 + 2)) + (wrap64 (bt a1 (ji25)))))).bind fun t386 => (if y383.length < 5864062014805 then (dasdref20_Decode.l0 k1 a0 a1 (wrap64 ((wrap64 (x7_1 + 6)) + (wrap64 (bt a1 (ji25))))) ((x8_1.extract 0 ((wrap64 (bt a1 x7_1)) : Int).toNat) ++ (a1.extract ((wrap64 (x7_1 + 2)) : Int).toNat ((wrap64 ((wrap64 (x7_1 + 2)) + (wrap64 (bt a1 (ji25))))) : Int).toNat)) (wrap64 (x9_1 + 1)) (wrap64 (bt a1 0)) t376 (y383 ++ [(⟨(x8_1.extract 0 ((wrap64 (bt a1 x7_1)) : Int).toNat) ++ (a1.extract ((wrap64 (x7_1 + 2)) : Int).toNat ((wrap64 ((wrap64 (x7_1 + 2)) + (wrap64 (bt a1 (ji25))))) : Int).toNat), t386⟩ : S32)])) else (none)))) else (none))) else (none)) else (none)) else (none)) else (none)) else (none)) else (none)))) else (none)) else (none)) = some (r1, r2, r3, r4) := by first | (rw [hji25] at H; exact H) | (simp only [hji25] at H ⊢; exact H)
                      have hji25w : (IntKind.i64.wrap (x7_1 + 1)) = ji25 := (i64_w _).trans hji25
                      by_cases c26 : 0 ≤ (ji25)
                      · rw [if_pos c26] at H
                        have c26b0 : decide (0 ≤ (ji25)) = true := decide_eq_true c26
                        clear c26
                        by_cases c27 : (ji25) < (a1.size : Int)
                        · rw [if_pos c27] at H
                          have c27b0 : decide ((ji25) < (a1.size : Int)) = true := decide_eq_true c27
                          clear c27
                          by_cases c29 : (wrap64 (bt a1 x7_1)) > (x8_1.size : Int)
                          · rw [if_pos c29] at H
                            have c29b0 : decide ((x8_1.size : Int) < (wrap64 (bt a1 x7_1))) = true := decide_eq_true c29
                            clear c29
                            simp only [Option.some.injEq, Prod.mk.injEq] at H
                            obtain ⟨rfl, rfl, rfl, rfl⟩ := H
                            have p17 : 0 ≤ (5 : Int) := (by omega)
                            have q17 : 5 < a1.size := (by have : (5 : Int) < (a1.size : Int) := of_decide_eq_true (by first | (with_reducible assumption) | assumption); omega)
                            have hx17 : ∀ h : 5 < a1.size, ((a1[5]'h).toNat : Int) = bt a1 5 := bt_at a1 5
                            clear p17
                            have qi17 : (5 < (a1.size : Int)) = True := eq_true (of_decide_eq_true (by first | (with_reducible assumption) | assumption))
                            replace q17 := eq_true q17
                            try go_wp2
                            have n0_ := Aside0.mk (Kd.R_drew HO_378002.out)
                            have n1_ := Aside0.mk (blk_drew BK374.out)
                            have n2_ := Aside0.mk (blk_drew BK377.out)
                            have n3_ := Aside0.mk (below_drew1 HB.out)
                            clear HO_378002
                            clear BK374
                            clear BK377
                            clear HB
                            have HO_378002 := n0_
                            have BK374 := n1_
                            have BK377 := n2_
                            have HB := n3_
                            clear n0_ n1_ n2_ n3_
                            have p24 : 0 ≤ (x7_1 : Int) := of_decide_eq_true (by first | (with_reducible assumption) | assumption)
                            have q24 : x7_1 < (a1.size : Int) := of_decide_eq_true (by first | (with_reducible assumption) | assumption)
                            have hx24 := bt_at a1 x7_1
                            replace p24 := eq_true p24
                            replace q24 := eq_true q24
                            have p28 : 0 ≤ ((ji25) : Int) := of_decide_eq_true (by first | (with_reducible assumption) | assumption)
                            have q28 : (ji25) < (a1.size : Int) := of_decide_eq_true (by first | (with_reducible assumption) | assumption)
                            have hx28 := bt_at a1 (ji25)
                            replace p28 := eq_true p28
                            replace q28 := eq_true q28
                            refine start_ (n := 11) (S := fun w' => True) (ds := []) #[false, false, false, false, false, false, false, false, false, false, false] (by kernel_rfl) rfl rfl trivial (fun hHeld => ?_); refine with_tabW dasdref20_Decode.tab12 dasdref20_Decode.bits12 (fun HT_ HW_ => ?_)
                            generalize wr.drew = w30 at HO_378002 BK374 BK377 HB hHeld ⊢
                            refine pure_ (i := 0) (N := some 41) (v := ?_) (a' := ?_) #[true, false, false, false, false, false, false, false, false, false, false] rfl rfl (any_of HT_.out (by kernel_rfl)) (fun _ _ _ h => h) (Or.inl ⟨by rfl, ?_⟩) ?_ ?_
                            rotate_left
                            · intro w'
                              go_simp
                              with_reducible rfl
                            rotate_left
                            · simp only [Act.put, List.setIfInBounds_toArray, List.set_cons_zero, List.set_cons_succ, i64_w, i32_w]
                              rfl
                            refine pure_ (i := 1) (N := some 42) (v := ?_) (a' := ?_) #[true, true, false, false, false, false, false, false, false, false, false] rfl rfl (any_of HT_.out (by kernel_rfl)) (fun _ _ _ h => h) (Or.inl ⟨by rfl, ?_⟩) ?_ ?_
                            rotate_left
                            · intro w'
                              go_simp
                              with_reducible rfl
                            rotate_left
                            · simp only [Act.put, List.setIfInBounds_toArray, List.set_cons_zero, List.set_cons_succ, i64_w, i32_w]
                              rfl
                            refine pure_ (i := 4) (N := some 45) (v := ?_) (a' := ?_) #[true, true, false, false, true, false, false, false, false, false, false] rfl rfl (any_of HT_.out (by kernel_rfl)) (fun _ _ _ h => h) (Or.inl ⟨by rfl, ?_⟩) ?_ ?_
                            rotate_left
                            · intro w'
                              go_simp
                              with_reducible rfl
                            rotate_left
                            · simp only [Act.put, List.setIfInBounds_toArray, List.set_cons_zero, List.set_cons_succ, i64_w, i32_w]
                              rfl
                            refine pure_ (i := 5) (N := some 46) (v := ?_) (a' := ?_) #[true, true, false, false, true, true, false, false, false, false, false] rfl rfl (any_of HT_.out (by kernel_rfl)) (fun _ _ _ h => h) (Or.inl ⟨by rfl, ?_⟩) ?_ ?_
                            rotate_left
                            · intro w'
                              go_simp
                              with_reducible rfl
                            rotate_left
                            · simp only [Act.put, List.setIfInBounds_toArray, List.set_cons_zero, List.set_cons_succ, i64_w, i32_w]
                              rfl
                            refine pure_ (i := 6) (N := some 47) (v := ?_) (a' := ?_) #[true, true, false, false, true, true, true, false, false, false, false] rfl rfl (any_of HT_.out (by kernel_rfl)) (fun _ _ _ h => h) (Or.inl ⟨by rfl, ?_⟩) ?_ ?_
                            rotate_left
                            · intro w'
                              go_simp
                              with_reducible rfl
                            rotate_left
                            · simp only [Act.put, List.setIfInBounds_toArray, List.set_cons_zero, List.set_cons_succ, i64_w, i32_w]
                              rfl
                            refine take_ (i := 2) (N := some 43) (v := ?_) (a' := ?_) #[true, true, true, false, true, true, true, false, false, false, false] rfl rfl (take_ofW HT_.out HW_.out (by kernel_rfl)) (fun _ _ _ h => h) (Or.inl ⟨by rfl, ?_⟩) hHeld ?_ ?_
                            rotate_left
                            · intro w' _
                              go_simp
                              with_reducible rfl
                            rotate_left
                            · simp only [Act.put, List.setIfInBounds_toArray, List.set_cons_zero, List.set_cons_succ, i64_w, i32_w]
                              rfl
                            refine pure_ (i := 3) (N := some 44) (v := ?_) (a' := ?_) #[true, true, true, true, true, true, true, false, false, false, false] rfl rfl (any_of HT_.out (by kernel_rfl)) (fun _ _ _ h => h) (Or.inl ⟨by rfl, ?_⟩) ?_ ?_
                            rotate_left
                            · intro w'
                              go_simp
                              with_reducible rfl
                            rotate_left
                            · simp only [Act.put, List.setIfInBounds_toArray, List.set_cons_zero, List.set_cons_succ, i64_w, i32_w]
                              rfl
                            refine pure_ (i := 9) (N := some 10) (v := ?_) (a' := ?_) #[true, true, true, true, true, true, true, false, false, true, false] rfl rfl (any_of HT_.out (by kernel_rfl)) (fun _ _ _ h => h) (Or.inl ⟨by rfl, ?_⟩) ?_ ?_
                            rotate_left
                            · intro w'
                              go_simp
                              with_reducible rfl
                            rotate_left
                            · simp only [Act.put, List.setIfInBounds_toArray, List.set_cons_zero, List.set_cons_succ, i64_w, i32_w]
                              rfl
                            refine take_ (i := 7) (N := some 48) (v := ?_) (a' := ?_) #[true, true, true, true, true, true, true, true, false, true, false] rfl rfl (take_ofW HT_.out HW_.out (by kernel_rfl)) (fun _ _ _ h => h) (Or.inl ⟨by rfl, ?_⟩) hHeld ?_ ?_
                            rotate_left
                            · intro w' _
                              go_simp
                              with_reducible rfl
                            rotate_left
                            · simp only [Act.put, List.setIfInBounds_toArray, List.set_cons_zero, List.set_cons_succ, i64_w, i32_w]
                              rfl
                            refine pure_ (i := 8) (N := some 49) (v := ?_) (a' := ?_) #[true, true, true, true, true, true, true, true, true, true, false] rfl rfl (any_of HT_.out (by kernel_rfl)) (fun _ _ _ h => h) (Or.inl ⟨by rfl, ?_⟩) ?_ ?_
                            rotate_left
                            · intro w'
                              go_simp
                              with_reducible rfl
                            rotate_left
                            · simp only [Act.put, List.setIfInBounds_toArray, List.set_cons_zero, List.set_cons_succ, i64_w, i32_w]
                              rfl
                            refine pure_ (i := 10) (N := some 11) (v := ?_) (a' := ?_) #[true, true, true, true, true, true, true, true, true, true, true] rfl rfl (any_of HT_.out (by kernel_rfl)) (fun _ _ _ h => h) (Or.inl ⟨by rfl, ?_⟩) ?_ ?_
                            rotate_left
                            · intro w'
                              go_simp
                              with_reducible rfl
                            rotate_left
                            · simp only [Act.put, List.setIfInBounds_toArray, List.set_cons_zero, List.set_cons_succ, i64_w, i32_w]
                              rfl
                            refine done_ (done_of HT_.out (by kernel_rfl)) ?_
                            have hnb31 := NB374_377.out
                            have hnc31 := NB377_374.out
                            have hcz32_0 : w30.cell? ⟨gb374, 0, none⟩ = some (.int .i64 x375000_1) := (blk_cell BK374.out 0).trans rfl
                            have hcz32_1 : w30.cell? ⟨gb374, 1, none⟩ = some (.int .i64 x375001_1) := (blk_cell BK374.out 1).trans rfl
                            have hcz32_2 : w30.cell? ⟨gb374, 2, none⟩ = some (.slice none 0 0) := (blk_cell BK374.out 2).trans rfl
                            have hfz32_0 := blk_frozen BK374.out 0
                            have hfz32_1 := blk_frozen BK374.out 1
                            have hfz32_2 := blk_frozen BK374.out 2
                            try go_wp2
                            refine bodyPost_ret (results_ct rfl _ _ gb374 24 #[.int .i64 0, .int .i64 0, .slice none 0 0] (0, 0) _ rfl (by (with_reducible repeat (first | refine blk_drewN ?_ _ | refine blk_drew ?_ | refine blk_alloc ?_ _)); refine blk_put (cs := #[.int .i64 0, .int .i64 0, .slice none 0 0]) ?_ 2 _ rfl; (with_reducible repeat (first | refine blk_drewN ?_ _ | refine blk_drew ?_ | refine blk_alloc ?_ _)); refine blk_put (cs := #[.int .i64 0, .int .i64 x375001_1, .slice none 0 0]) ?_ 1 _ rfl; (with_reducible repeat (first | refine blk_drewN ?_ _ | refine blk_drew ?_ | refine blk_alloc ?_ _)); refine blk_put (cs := #[.int .i64 x375000_1, .int .i64 x375001_1, .slice none 0 0]) ?_ 0 _ rfl; (with_reducible repeat (first | refine blk_drewN ?_ _ | refine blk_drew ?_ | refine blk_alloc ?_ _)); exact BK374.out) Try.underlying24 rfl (by kernel_rfl)) rfl ?_
                            exact ⟨_, by first | rfl | (simp [errW_none, errW_some] <;> rfl) | (simp only [← hji25]; first | rfl | (simp [errW_none, errW_some] <;> rfl)) | (simp [*, errW_none, errW_some] <;> rfl), by first | exact Kd.R_nil _ _ _ _ _ | exact Kd.N_nil _ _ _ _ _ | exact Kd.V_nil _ _ _ _ _ | exact Kd.Q_nil _ _ _ _ _ | exact Kd.S_nil _ _ _ _ _, by repeat (first | (with_reducible first | exact HB.out | apply below_alloc | apply pw_below_drewN | apply below_drew1 | refine below_set ?_ GE374.out | refine below_set ?_ GE377.out) | exact HB.out)⟩
                          · rw [if_neg c29] at H
                            have c29b0 : decide ((x8_1.size : Int) < (wrap64 (bt a1 x7_1))) = false := decide_eq_false c29
                            clear c29
                            by_cases c33 : (wrap64 ((wrap64 ((wrap64 (x7_1 + 2)) + (wrap64 (bt a1 (ji25))))) + 4)) > a0
                            · rw [if_pos c33] at H
                              have c33b0 : decide (a0 < (wrap64 ((wrap64 ((wrap64 (x7_1 + 2)) + (wrap64 (bt a1 (ji25))))) + 4))) = true := decide_eq_true c33
                              clear c33
                              simp only [Option.some.injEq, Prod.mk.injEq] at H
                              obtain ⟨rfl, rfl, rfl, rfl⟩ := H
                              have p17 : 0 ≤ (5 : Int) := (by omega)
                              have q17 : 5 < a1.size := (by have : (5 : Int) < (a1.size : Int) := of_decide_eq_true (by first | (with_reducible assumption) | assumption); omega)
                              have hx17 : ∀ h : 5 < a1.size, ((a1[5]'h).toNat : Int) = bt a1 5 := bt_at a1 5
                              clear p17
                              have qi17 : (5 < (a1.size : Int)) = True := eq_true (of_decide_eq_true (by first | (with_reducible assumption) | assumption))
                              replace q17 := eq_true q17
                              try go_wp2
                              have n0_ := Aside0.mk (Kd.R_drew HO_378002.out)
                              have n1_ := Aside0.mk (blk_drew BK374.out)
                              have n2_ := Aside0.mk (blk_drew BK377.out)
                              have n3_ := Aside0.mk (below_drew1 HB.out)
                              clear HO_378002
                              clear BK374
                              clear BK377
                              clear HB
                              have HO_378002 := n0_
                              have BK374 := n1_
                              have BK377 := n2_
                              have HB := n3_
                              clear n0_ n1_ n2_ n3_
                              have p24 : 0 ≤ (x7_1 : Int) := of_decide_eq_true (by first | (with_reducible assumption) | assumption)
                              have q24 : x7_1 < (a1.size : Int) := of_decide_eq_true (by first | (with_reducible assumption) | assumption)
                              have hx24 := bt_at a1 x7_1
                              replace p24 := eq_true p24
                              replace q24 := eq_true q24
                              have p28 : 0 ≤ ((ji25) : Int) := of_decide_eq_true (by first | (with_reducible assumption) | assumption)
                              have q28 : (ji25) < (a1.size : Int) := of_decide_eq_true (by first | (with_reducible assumption) | assumption)
                              have hx28 := bt_at a1 (ji25)
                              replace p28 := eq_true p28
                              replace q28 := eq_true q28
                              refine start_ (n := 11) (S := fun w' => True) (ds := []) #[false, false, false, false, false, false, false, false, false, false, false] (by kernel_rfl) rfl rfl trivial (fun hHeld => ?_); refine with_tabW dasdref20_Decode.tab12 dasdref20_Decode.bits12 (fun HT_ HW_ => ?_)
                              generalize wr.drew = w34 at HO_378002 BK374 BK377 HB hHeld ⊢
                              refine pure_ (i := 0) (N := some 41) (v := ?_) (a' := ?_) #[true, false, false, false, false, false, false, false, false, false, false] rfl rfl (any_of HT_.out (by kernel_rfl)) (fun _ _ _ h => h) (Or.inl ⟨by rfl, ?_⟩) ?_ ?_
                              rotate_left
                              · intro w'
                                go_simp
                                with_reducible rfl
                              rotate_left
                              · simp only [Act.put, List.setIfInBounds_toArray, List.set_cons_zero, List.set_cons_succ, i64_w, i32_w]
                                rfl
                              refine pure_ (i := 1) (N := some 42) (v := ?_) (a' := ?_) #[true, true, false, false, false, false, false, false, false, false, false] rfl rfl (any_of HT_.out (by kernel_rfl)) (fun _ _ _ h => h) (Or.inl ⟨by rfl, ?_⟩) ?_ ?_
                              rotate_left
                              · intro w'
                                go_simp
                                with_reducible rfl
                              rotate_left
                              · simp only [Act.put, List.setIfInBounds_toArray, List.set_cons_zero, List.set_cons_succ, i64_w, i32_w]
                                rfl
                              refine pure_ (i := 4) (N := some 45) (v := ?_) (a' := ?_) #[true, true, false, false, true, false, false, false, false, false, false] rfl rfl (any_of HT_.out (by kernel_rfl)) (fun _ _ _ h => h) (Or.inl ⟨by rfl, ?_⟩) ?_ ?_
                              rotate_left
                              · intro w'
                                go_simp
                                with_reducible rfl
                              rotate_left
                              · simp only [Act.put, List.setIfInBounds_toArray, List.set_cons_zero, List.set_cons_succ, i64_w, i32_w]
                                rfl
                              refine pure_ (i := 5) (N := some 46) (v := ?_) (a' := ?_) #[true, true, false, false, true, true, false, false, false, false, false] rfl rfl (any_of HT_.out (by kernel_rfl)) (fun _ _ _ h => h) (Or.inl ⟨by rfl, ?_⟩) ?_ ?_
                              rotate_left
                              · intro w'
                                go_simp
                                with_reducible rfl
                              rotate_left
                              · simp only [Act.put, List.setIfInBounds_toArray, List.set_cons_zero, List.set_cons_succ, i64_w, i32_w]
                                rfl
                              refine pure_ (i := 6) (N := some 47) (v := ?_) (a' := ?_) #[true, true, false, false, true, true, true, false, false, false, false] rfl rfl (any_of HT_.out (by kernel_rfl)) (fun _ _ _ h => h) (Or.inl ⟨by rfl, ?_⟩) ?_ ?_
                              rotate_left
                              · intro w'
                                go_simp
                                with_reducible rfl
                              rotate_left
                              · simp only [Act.put, List.setIfInBounds_toArray, List.set_cons_zero, List.set_cons_succ, i64_w, i32_w]
                                rfl
                              refine take_ (i := 2) (N := some 43) (v := ?_) (a' := ?_) #[true, true, true, false, true, true, true, false, false, false, false] rfl rfl (take_ofW HT_.out HW_.out (by kernel_rfl)) (fun _ _ _ h => h) (Or.inl ⟨by rfl, ?_⟩) hHeld ?_ ?_
                              rotate_left
                              · intro w' _
                                go_simp
                                with_reducible rfl
                              rotate_left
                              · simp only [Act.put, List.setIfInBounds_toArray, List.set_cons_zero, List.set_cons_succ, i64_w, i32_w]
                                rfl
                              refine pure_ (i := 3) (N := some 44) (v := ?_) (a' := ?_) #[true, true, true, true, true, true, true, false, false, false, false] rfl rfl (any_of HT_.out (by kernel_rfl)) (fun _ _ _ h => h) (Or.inl ⟨by rfl, ?_⟩) ?_ ?_
                              rotate_left
                              · intro w'
                                go_simp
                                with_reducible rfl
                              rotate_left
                              · simp only [Act.put, List.setIfInBounds_toArray, List.set_cons_zero, List.set_cons_succ, i64_w, i32_w]
                                rfl
                              refine pure_ (i := 9) (N := some 10) (v := ?_) (a' := ?_) #[true, true, true, true, true, true, true, false, false, true, false] rfl rfl (any_of HT_.out (by kernel_rfl)) (fun _ _ _ h => h) (Or.inl ⟨by rfl, ?_⟩) ?_ ?_
                              rotate_left
                              · intro w'
                                go_simp
                                with_reducible rfl
                              rotate_left
                              · simp only [Act.put, List.setIfInBounds_toArray, List.set_cons_zero, List.set_cons_succ, i64_w, i32_w]
                                rfl
                              refine take_ (i := 7) (N := some 48) (v := ?_) (a' := ?_) #[true, true, true, true, true, true, true, true, false, true, false] rfl rfl (take_ofW HT_.out HW_.out (by kernel_rfl)) (fun _ _ _ h => h) (Or.inl ⟨by rfl, ?_⟩) hHeld ?_ ?_
                              rotate_left
                              · intro w' _
                                go_simp
                                with_reducible rfl
                              rotate_left
                              · simp only [Act.put, List.setIfInBounds_toArray, List.set_cons_zero, List.set_cons_succ, i64_w, i32_w]
                                rfl
                              refine pure_ (i := 8) (N := some 49) (v := ?_) (a' := ?_) #[true, true, true, true, true, true, true, true, true, true, false] rfl rfl (any_of HT_.out (by kernel_rfl)) (fun _ _ _ h => h) (Or.inl ⟨by rfl, ?_⟩) ?_ ?_
                              rotate_left
                              · intro w'
                                go_simp
                                with_reducible rfl
                              rotate_left
                              · simp only [Act.put, List.setIfInBounds_toArray, List.set_cons_zero, List.set_cons_succ, i64_w, i32_w]
                                rfl
                              refine pure_ (i := 10) (N := some 11) (v := ?_) (a' := ?_) #[true, true, true, true, true, true, true, true, true, true, true] rfl rfl (any_of HT_.out (by kernel_rfl)) (fun _ _ _ h => h) (Or.inl ⟨by rfl, ?_⟩) ?_ ?_
                              rotate_left
                              · intro w'
                                go_simp
                                with_reducible rfl
                              rotate_left
                              · simp only [Act.put, List.setIfInBounds_toArray, List.set_cons_zero, List.set_cons_succ, i64_w, i32_w]
                                rfl
                              refine done_ (done_of HT_.out (by kernel_rfl)) ?_
                              have hnb35 := NB374_377.out
                              have hnc35 := NB377_374.out
                              have hcz36_0 : w34.cell? ⟨gb374, 0, none⟩ = some (.int .i64 x375000_1) := (blk_cell BK374.out 0).trans rfl
                              have hcz36_1 : w34.cell? ⟨gb374, 1, none⟩ = some (.int .i64 x375001_1) := (blk_cell BK374.out 1).trans rfl
                              have hcz36_2 : w34.cell? ⟨gb374, 2, none⟩ = some (.slice none 0 0) := (blk_cell BK374.out 2).trans rfl
                              have hfz36_0 := blk_frozen BK374.out 0
                              have hfz36_1 := blk_frozen BK374.out 1
                              have hfz36_2 := blk_frozen BK374.out 2
                              try go_wp2
                              refine bodyPost_ret (results_ct rfl _ _ gb374 24 #[.int .i64 0, .int .i64 0, .slice none 0 0] (0, 0) _ rfl (by (with_reducible repeat (first | refine blk_drewN ?_ _ | refine blk_drew ?_ | refine blk_alloc ?_ _)); refine blk_put (cs := #[.int .i64 0, .int .i64 0, .slice none 0 0]) ?_ 2 _ rfl; (with_reducible repeat (first | refine blk_drewN ?_ _ | refine blk_drew ?_ | refine blk_alloc ?_ _)); refine blk_put (cs := #[.int .i64 0, .int .i64 x375001_1, .slice none 0 0]) ?_ 1 _ rfl; (with_reducible repeat (first | refine blk_drewN ?_ _ | refine blk_drew ?_ | refine blk_alloc ?_ _)); refine blk_put (cs := #[.int .i64 x375000_1, .int .i64 x375001_1, .slice none 0 0]) ?_ 0 _ rfl; (with_reducible repeat (first | refine blk_drewN ?_ _ | refine blk_drew ?_ | refine blk_alloc ?_ _)); exact BK374.out) Try.underlying24 rfl (by kernel_rfl)) rfl ?_
                              exact ⟨_, by first | rfl | (simp [errW_none, errW_some] <;> rfl) | (simp only [← hji25]; first | rfl | (simp [errW_none, errW_some] <;> rfl)) | (simp [*, errW_none, errW_some] <;> rfl), by first | exact Kd.R_nil _ _ _ _ _ | exact Kd.N_nil _ _ _ _ _ | exact Kd.V_nil _ _ _ _ _ | exact Kd.Q_nil _ _ _ _ _ | exact Kd.S_nil _ _ _ _ _, by repeat (first | (with_reducible first | exact HB.out | apply below_alloc | apply pw_below_drewN | apply below_drew1 | refine below_set ?_ GE374.out | refine below_set ?_ GE377.out) | exact HB.out)⟩
                            · rw [if_neg c33] at H
                              have c33b0 : decide (a0 < (wrap64 ((wrap64 ((wrap64 (x7_1 + 2)) + (wrap64 (bt a1 (ji25))))) + 4))) = false := decide_eq_false c33
                              clear c33
                              obtain ⟨ji37, hji37⟩ : ∃ j_ : Int, (wrap64 (bt a1 x7_1)) = j_ := ⟨_, rfl⟩
                              replace H : (if 0 ≤ (ji37) then (if (ji37) ≤ (x8_1.size : Int) then (if 0 ≤ (wrap64 (x7_1 + 2)) then (if (wrap64 (x7_1 + 2)) ≤ (wrap64 ((wrap64 (x7_1 + 2)) + (wrap64 (bt a1 (ji25))))) then (if (wrap64 ((wrap64 (x7_1 + 2)) + (wrap64 (bt a1 (ji25))))) ≤ (a1.size : Int) then (if (x8_1.extract 0 ((ji37) : Int).toNat).size + (a1.extract ((wrap64 (x7_1 + 2)) : Int).toNat ((wrap64 ((wrap64 (x7_1 + 2)) + (wrap64 (bt a1 (ji25))))) : Int).toNat).size ≤ 9223372036854775807 then ((some (([] : List (S32)) : List (S32))).bind fun y380 => (if y380.length + x378002_1.length < 5864062014805 then ((some (y380 ++ x378002_1 : List (S32))).bind fun y383 => ((dasdref20_number.f a1 (wrap64 ((wrap64 (x7_1 + 2)) + (wrap64 (bt a1 (ji25)))))).bind fun t386 => (if y383.length < 5864062014805 then (dasdref20_Decode.l0 k1 a0 a1 (wrap64 ((wrap64 (x7_1 + 6)) + (wrap64 (bt a1 (ji25))))) ((x8_1.extract 0 ((ji37) : Int).toNat) ++ (a1.extract ((wrap64 (x7_1 + 2)) : Int).toNat ((wrap64 ((wrap64 (x7_1 + 2)) + (wrap64 (bt a1 (ji25))))) : Int).toNat)) (wrap64 (x9_1 + 1)) (wrap64 (bt a1 0)) t376 (y383 ++ [(⟨(x8_1.extract 0 ((ji37) : Int).toNat) ++ (a1.extract ((wrap64 (x7_1 + 2)) : Int).toNat ((wrap64 ((wrap64 (x7_1 + 2)) + (wrap64 (bt a1 (ji25))))) : Int).toNat), t386⟩ : S32)])) else (none)))) else (none))) else (none)) else (none)) else (none)) else (none)) else (none)) else (none)) = some (r1, r2, r3, r4) := by first | (rw [hji37] at H; exact H) | (simp only [hji37] at H ⊢; exact H)
                              (try rw [hji37] at c29b0)
                              have hji37w : (IntKind.i64.wrap (bt a1 x7_1)) = ji37 := (i64_w _).trans hji37
                              by_cases c38 : 0 ≤ (ji37)
                              · rw [if_pos c38] at H
                                have c38b0 := eq_true c38
                                have c38b1 : decide (0 ≤ (ji37)) = true := decide_eq_true c38
                                clear c38
                                by_cases c39 : (ji37) ≤ (x8_1.size : Int)
                                · rw [if_pos c39] at H
                                  have c39b0 := eq_true c39
                                  have c39b1 : decide ((ji37) ≤ (x8_1.size : Int)) = true := decide_eq_true c39
                                  clear c39
                                  obtain ⟨ji40, hji40⟩ : ∃ j_ : Int, (wrap64 (x7_1 + 2)) = j_ := ⟨_, rfl⟩
                                  replace H : (if 0 ≤ (ji40) then (if (ji40) ≤ (wrap64 ((ji40) + (wrap64 (bt a1 (ji25))))) then (if (wrap64 ((ji40) + (wrap64 (bt a1 (ji25))))) ≤ (a1.size : Int) then (if (x8_1.extract 0 ((ji37) : Int).toNat).size + (a1.extract ((ji40) : Int).toNat ((wrap64 ((ji40) + (wrap64 (bt a1 (ji25))))) : Int).toNat).size ≤ 9223372036854775807 then ((some (([] : List (S32)) : List (S32))).bind fun y380 => (if y380.length + x378002_1.length < 5864062014805 then ((some (y380 ++ x378002_1 : List (S32))).bind fun y383 => ((dasdref20_number.f a1 (wrap64 ((ji40) + (wrap64 (bt a1 (ji25)))))).bind fun t386 => (if y383.length < 5864062014805 then (dasdref20_Decode.l0 k1 a0 a1 (wrap64 ((wrap64 (x7_1 + 6)) + (wrap64 (bt a1 (ji25))))) ((x8_1.extract 0 ((ji37) : Int).toNat) ++ (a1.extract ((ji40) : Int).toNat ((wrap64 ((ji40) + (wrap64 (bt a1 (ji25))))) : Int).toNat)) (wrap64 (x9_1 + 1)) (wrap64 (bt a1 0)) t376 (y383 ++ [(⟨(x8_1.extract 0 ((ji37) : Int).toNat) ++ (a1.extract ((ji40) : Int).toNat ((wrap64 ((ji40) + (wrap64 (bt a1 (ji25))))) : Int).toNat), t386⟩ : S32)])) else (none)))) else (none))) else (none)) else (none)) else (none)) else (none)) = some (r1, r2, r3, r4) := by first | (rw [hji40] at H; exact H) | (simp only [hji40] at H ⊢; exact H)
                                  (try rw [hji40] at c19b0)
                                  (try rw [hji40] at c33b0)
                                  have hji40w : (IntKind.i64.wrap (x7_1 + 2)) = ji40 := (i64_w _).trans hji40
                                  by_cases c41 : 0 ≤ (ji40)
                                  · rw [if_pos c41] at H
                                    have c41b0 := eq_true c41
                                    have c41b1 : decide (0 ≤ (ji40)) = true := decide_eq_true c41
                                    clear c41
                                    by_cases c42 : (ji40) ≤ (wrap64 ((ji40) + (wrap64 (bt a1 (ji25)))))
                                    · rw [if_pos c42] at H
                                      have c42b0 := eq_true c42
                                      have c42b1 : decide ((ji40) ≤ (wrap64 ((ji40) + (wrap64 (bt a1 (ji25)))))) = true := decide_eq_true c42
                                      by_cases c43 : (wrap64 ((ji40) + (wrap64 (bt a1 (ji25))))) ≤ (a1.size : Int)
                                      · rw [if_pos c43] at H
                                        have c43b0 := eq_true c43
                                        have c43b1 : decide ((wrap64 ((ji40) + (wrap64 (bt a1 (ji25))))) ≤ (a1.size : Int)) = true := decide_eq_true c43
                                        by_cases c44 : (x8_1.extract 0 ((ji37) : Int).toNat).size + (a1.extract ((ji40) : Int).toNat ((wrap64 ((ji40) + (wrap64 (bt a1 (ji25))))) : Int).toNat).size ≤ 9223372036854775807
                                        · rw [if_pos c44] at H
                                          have c44b0 := eq_true c44
                                          have c44b1 : decide ((x8_1.extract 0 ((ji37) : Int).toNat).size + (a1.extract ((ji40) : Int).toNat ((wrap64 ((ji40) + (wrap64 (bt a1 (ji25))))) : Int).toNat).size ≤ 9223372036854775807) = true := decide_eq_true c44
                                          try have c44b2 : (9223372036854775807 < (x8_1.extract 0 ((ji37) : Int).toNat).size + (a1.extract ((ji40) : Int).toNat ((wrap64 ((ji40) + (wrap64 (bt a1 (ji25))))) : Int).toNat).size) = False := eq_false (Nat.not_lt.2 c44)
                                          try have c44b5 : (9223372036854775807 < ji37.toNat + ((wrap64 (ji40 + wrap64 (bt a1 ji25))).toNat - ji40.toNat)) = False := eq_false (by have h1_ := c44; have h2_ : ji37 ≤ (x8_1.size : Int) := of_decide_eq_true (by assumption); have h3_ : (wrap64 ((ji40) + (wrap64 (bt a1 (ji25))))) ≤ (a1.size : Int) := of_decide_eq_true (by assumption); rw [ByteArray.size_extract, ByteArray.size_extract] at h1_; omega)
                                          obtain ⟨y380, hy380⟩ : ∃ y_ : List (S32), y_ = (([] : List (S32))) := ⟨_, rfl⟩
                                          replace H : (if y380.length + x378002_1.length < 5864062014805 then ((some (y380 ++ x378002_1 : List (S32))).bind fun y383 => ((dasdref20_number.f a1 (wrap64 ((ji40) + (wrap64 (bt a1 (ji25)))))).bind fun t386 => (if y383.length < 5864062014805 then (dasdref20_Decode.l0 k1 a0 a1 (wrap64 ((wrap64 (x7_1 + 6)) + (wrap64 (bt a1 (ji25))))) ((x8_1.extract 0 ((ji37) : Int).toNat) ++ (a1.extract ((ji40) : Int).toNat ((wrap64 ((ji40) + (wrap64 (bt a1 (ji25))))) : Int).toNat)) (wrap64 (x9_1 + 1)) (wrap64 (bt a1 0)) t376 (y383 ++ [(⟨(x8_1.extract 0 ((ji37) : Int).toNat) ++ (a1.extract ((ji40) : Int).toNat ((wrap64 ((ji40) + (wrap64 (bt a1 (ji25))))) : Int).toNat), t386⟩ : S32)])) else (none)))) else (none)) = some (r1, r2, r3, r4) := by first | (rw [hy380]; with_reducible exact H) | (have H2_ := (Option.bind_some _ _).symm.trans H; rw [hy380]; with_reducible exact H2_) | (have H2_ := (Option.bind_some _ _).symm.trans H; with_reducible exact H2_) | with_reducible exact H | (rw [hy380]; exact H) | exact H
                                          have Ny380 := Aside0.mk hy380
                                          clear hy380
                                          by_cases c45 : y380.length + x378002_1.length < 5864062014805
                                          · rw [if_pos c45] at H
                                            have LMc45 := Aside0.mk c45
                                            clear c45
                                            obtain ⟨y383, hy383⟩ : ∃ y_ : List (S32), y_ = (y380 ++ x378002_1) := ⟨_, rfl⟩
                                            replace H : ((dasdref20_number.f a1 (wrap64 ((ji40) + (wrap64 (bt a1 (ji25)))))).bind fun t386 => (if y383.length < 5864062014805 then (dasdref20_Decode.l0 k1 a0 a1 (wrap64 ((wrap64 (x7_1 + 6)) + (wrap64 (bt a1 (ji25))))) ((x8_1.extract 0 ((ji37) : Int).toNat) ++ (a1.extract ((ji40) : Int).toNat ((wrap64 ((ji40) + (wrap64 (bt a1 (ji25))))) : Int).toNat)) (wrap64 (x9_1 + 1)) (wrap64 (bt a1 0)) t376 (y383 ++ [(⟨(x8_1.extract 0 ((ji37) : Int).toNat) ++ (a1.extract ((ji40) : Int).toNat ((wrap64 ((ji40) + (wrap64 (bt a1 (ji25))))) : Int).toNat), t386⟩ : S32)])) else (none))) = some (r1, r2, r3, r4) := by first | (rw [hy383]; with_reducible exact H) | (have H2_ := (Option.bind_some _ _).symm.trans H; rw [hy383]; with_reducible exact H2_) | (have H2_ := (Option.bind_some _ _).symm.trans H; with_reducible exact H2_) | with_reducible exact H | (rw [hy383]; exact H) | exact H
                                            have Ny383 := Aside0.mk hy383
                                            clear hy383
                                            replace H := Option.bind_eq_some_iff.mp H
                                            obtain ⟨t386, A460, H⟩ := H
                                            replace H : (if y383.length < 5864062014805 then (dasdref20_Decode.l0 k1 a0 a1 (wrap64 ((wrap64 (x7_1 + 6)) + (wrap64 (bt a1 (ji25))))) ((x8_1.extract 0 ((ji37) : Int).toNat) ++ (a1.extract ((ji40) : Int).toNat ((wrap64 ((ji40) + (wrap64 (bt a1 (ji25))))) : Int).toNat)) (wrap64 (x9_1 + 1)) (wrap64 (bt a1 0)) t376 (y383 ++ [(⟨(x8_1.extract 0 ((ji37) : Int).toNat) ++ (a1.extract ((ji40) : Int).toNat ((wrap64 ((ji40) + (wrap64 (bt a1 (ji25))))) : Int).toNat), t386⟩ : S32)])) else (none)) = some (r1, r2, r3, r4) := H
                                            have A46 := Aside0.mk A460
                                            clear A460
                                            by_cases c47 : y383.length < 5864062014805
                                            · rw [if_pos c47] at H
                                              have LMc47 := Aside0.mk c47
                                              clear c47
                                              obtain ⟨y387, hy387⟩ : ∃ y_ : List (S32), y_ = (y383 ++ [(⟨(x8_1.extract 0 ((ji37) : Int).toNat) ++ (a1.extract ((ji40) : Int).toNat ((wrap64 ((ji40) + (wrap64 (bt a1 (ji25))))) : Int).toNat), t386⟩ : S32)]) := ⟨_, rfl⟩
                                              replace H : (dasdref20_Decode.l0 k1 a0 a1 (wrap64 ((wrap64 (x7_1 + 6)) + (wrap64 (bt a1 (ji25))))) ((x8_1.extract 0 ((ji37) : Int).toNat) ++ (a1.extract ((ji40) : Int).toNat ((wrap64 ((ji40) + (wrap64 (bt a1 (ji25))))) : Int).toNat)) (wrap64 (x9_1 + 1)) (wrap64 (bt a1 0)) t376 y387) = some (r1, r2, r3, r4) := by first | (rw [hy387]; with_reducible exact H) | (have H2_ := (Option.bind_some _ _).symm.trans H; rw [hy387]; with_reducible exact H2_) | (have H2_ := (Option.bind_some _ _).symm.trans H; with_reducible exact H2_) | with_reducible exact H | (rw [hy387]; exact H) | exact H
                                              have Ny387 := Aside0.mk hy387
                                              clear hy387
                                              have H' := Aside0.mk H
                                              clear H
                                              have p17 : 0 ≤ (5 : Int) := (by omega)
                                              have q17 : 5 < a1.size := (by have : (5 : Int) < (a1.size : Int) := of_decide_eq_true (by first | (with_reducible assumption) | assumption); omega)
                                              have hx17 : ∀ h : 5 < a1.size, ((a1[5]'h).toNat : Int) = bt a1 5 := bt_at a1 5
                                              clear p17
                                              have qi17 : (5 < (a1.size : Int)) = True := eq_true (of_decide_eq_true (by first | (with_reducible assumption) | assumption))
                                              replace q17 := eq_true q17
                                              try go_wp2
                                              have n0_ := Aside0.mk (Kd.R_drew HO_378002.out)
                                              have n1_ := Aside0.mk (blk_drew BK374.out)
                                              have n2_ := Aside0.mk (blk_drew BK377.out)
                                              have n3_ := Aside0.mk (below_drew1 HB.out)
                                              clear HO_378002
                                              clear BK374
                                              clear BK377
                                              clear HB
                                              have HO_378002 := n0_
                                              have BK374 := n1_
                                              have BK377 := n2_
                                              have HB := n3_
                                              clear n0_ n1_ n2_ n3_
                                              have p24 : 0 ≤ (x7_1 : Int) := of_decide_eq_true (by first | (with_reducible assumption) | assumption)
                                              have q24 : x7_1 < (a1.size : Int) := of_decide_eq_true (by first | (with_reducible assumption) | assumption)
                                              have hx24 := bt_at a1 x7_1
                                              replace p24 := eq_true p24
                                              replace q24 := eq_true q24
                                              have p28 : 0 ≤ ((ji25) : Int) := of_decide_eq_true (by first | (with_reducible assumption) | assumption)
                                              have q28 : (ji25) < (a1.size : Int) := of_decide_eq_true (by first | (with_reducible assumption) | assumption)
                                              have hx28 := bt_at a1 (ji25)
                                              replace p28 := eq_true p28
                                              replace q28 := eq_true q28
                                              refine start_ (n := 11) (S := fun w' => True) (ds := []) #[false, false, false, false, false, false, false, false, false, false, false] (by kernel_rfl) rfl rfl trivial (fun hHeld => ?_); refine with_tabW dasdref20_Decode.tab12 dasdref20_Decode.bits12 (fun HT_ HW_ => ?_)
                                              generalize wr.drew = w48 at HO_378002 BK374 BK377 HB hHeld ⊢
                                              refine pure_ (i := 0) (N := some 41) (v := ?_) (a' := ?_) #[true, false, false, false, false, false, false, false, false, false, false] rfl rfl (any_of HT_.out (by kernel_rfl)) (fun _ _ _ h => h) (Or.inl ⟨by rfl, ?_⟩) ?_ ?_
                                              rotate_left
                                              · intro w'
                                                go_simp
                                                with_reducible rfl
                                              rotate_left
                                              · simp only [Act.put, List.setIfInBounds_toArray, List.set_cons_zero, List.set_cons_succ, i64_w, i32_w]
                                                rfl
                                              refine pure_ (i := 1) (N := some 42) (v := ?_) (a' := ?_) #[true, true, false, false, false, false, false, false, false, false, false] rfl rfl (any_of HT_.out (by kernel_rfl)) (fun _ _ _ h => h) (Or.inl ⟨by rfl, ?_⟩) ?_ ?_
                                              rotate_left
                                              · intro w'
                                                go_simp
                                                with_reducible rfl
                                              rotate_left
                                              · simp only [Act.put, List.setIfInBounds_toArray, List.set_cons_zero, List.set_cons_succ, i64_w, i32_w]
                                                rfl
                                              refine pure_ (i := 4) (N := some 45) (v := ?_) (a' := ?_) #[true, true, false, false, true, false, false, false, false, false, false] rfl rfl (any_of HT_.out (by kernel_rfl)) (fun _ _ _ h => h) (Or.inl ⟨by rfl, ?_⟩) ?_ ?_
                                              rotate_left
                                              · intro w'
                                                go_simp
                                                with_reducible rfl
                                              rotate_left
                                              · simp only [Act.put, List.setIfInBounds_toArray, List.set_cons_zero, List.set_cons_succ, i64_w, i32_w]
                                                rfl
                                              refine pure_ (i := 5) (N := some 46) (v := ?_) (a' := ?_) #[true, true, false, false, true, true, false, false, false, false, false] rfl rfl (any_of HT_.out (by kernel_rfl)) (fun _ _ _ h => h) (Or.inl ⟨by rfl, ?_⟩) ?_ ?_
                                              rotate_left
                                              · intro w'
                                                go_simp
                                                with_reducible rfl
                                              rotate_left
                                              · simp only [Act.put, List.setIfInBounds_toArray, List.set_cons_zero, List.set_cons_succ, i64_w, i32_w]
                                                rfl
                                              refine pure_ (i := 6) (N := some 47) (v := ?_) (a' := ?_) #[true, true, false, false, true, true, true, false, false, false, false] rfl rfl (any_of HT_.out (by kernel_rfl)) (fun _ _ _ h => h) (Or.inl ⟨by rfl, ?_⟩) ?_ ?_
                                              rotate_left
                                              · intro w'
                                                go_simp
                                                with_reducible rfl
                                              rotate_left
                                              · simp only [Act.put, List.setIfInBounds_toArray, List.set_cons_zero, List.set_cons_succ, i64_w, i32_w]
                                                rfl
                                              refine take_ (i := 2) (N := some 43) (v := ?_) (a' := ?_) #[true, true, true, false, true, true, true, false, false, false, false] rfl rfl (take_ofW HT_.out HW_.out (by kernel_rfl)) (fun _ _ _ h => h) (Or.inl ⟨by rfl, ?_⟩) hHeld ?_ ?_
                                              rotate_left
                                              · intro w' _
                                                go_simp
                                                with_reducible rfl
                                              rotate_left
                                              · simp only [Act.put, List.setIfInBounds_toArray, List.set_cons_zero, List.set_cons_succ, i64_w, i32_w]
                                                rfl
                                              refine pure_ (i := 3) (N := some 44) (v := ?_) (a' := ?_) #[true, true, true, true, true, true, true, false, false, false, false] rfl rfl (any_of HT_.out (by kernel_rfl)) (fun _ _ _ h => h) (Or.inl ⟨by rfl, ?_⟩) ?_ ?_
                                              rotate_left
                                              · intro w'
                                                go_simp
                                                with_reducible rfl
                                              rotate_left
                                              · simp only [Act.put, List.setIfInBounds_toArray, List.set_cons_zero, List.set_cons_succ, i64_w, i32_w]
                                                rfl
                                              refine pure_ (i := 9) (N := some 10) (v := ?_) (a' := ?_) #[true, true, true, true, true, true, true, false, false, true, false] rfl rfl (any_of HT_.out (by kernel_rfl)) (fun _ _ _ h => h) (Or.inl ⟨by rfl, ?_⟩) ?_ ?_
                                              rotate_left
                                              · intro w'
                                                go_simp
                                                with_reducible rfl
                                              rotate_left
                                              · simp only [Act.put, List.setIfInBounds_toArray, List.set_cons_zero, List.set_cons_succ, i64_w, i32_w]
                                                rfl
                                              refine take_ (i := 7) (N := some 48) (v := ?_) (a' := ?_) #[true, true, true, true, true, true, true, true, false, true, false] rfl rfl (take_ofW HT_.out HW_.out (by kernel_rfl)) (fun _ _ _ h => h) (Or.inl ⟨by rfl, ?_⟩) hHeld ?_ ?_
                                              rotate_left
                                              · intro w' _
                                                go_simp
                                                with_reducible rfl
                                              rotate_left
                                              · simp only [Act.put, List.setIfInBounds_toArray, List.set_cons_zero, List.set_cons_succ, i64_w, i32_w]
                                                rfl
                                              refine pure_ (i := 8) (N := some 49) (v := ?_) (a' := ?_) #[true, true, true, true, true, true, true, true, true, true, false] rfl rfl (any_of HT_.out (by kernel_rfl)) (fun _ _ _ h => h) (Or.inl ⟨by rfl, ?_⟩) ?_ ?_
                                              rotate_left
                                              · intro w'
                                                go_simp
                                                with_reducible rfl
                                              rotate_left
                                              · simp only [Act.put, List.setIfInBounds_toArray, List.set_cons_zero, List.set_cons_succ, i64_w, i32_w]
                                                rfl
                                              refine pure_ (i := 10) (N := some 11) (v := ?_) (a' := ?_) #[true, true, true, true, true, true, true, true, true, true, true] rfl rfl (any_of HT_.out (by kernel_rfl)) (fun _ _ _ h => h) (Or.inl ⟨by rfl, ?_⟩) ?_ ?_
                                              rotate_left
                                              · intro w'
                                                go_simp
                                                with_reducible rfl
                                              rotate_left
                                              · simp only [Act.put, List.setIfInBounds_toArray, List.set_cons_zero, List.set_cons_succ, i64_w, i32_w]
                                                rfl
                                              refine done_ (done_of HT_.out (by kernel_rfl)) ?_
                                              try go_wp2
                                              have n0_ := Aside0.mk (Kd.R_drew HO_378002.out)
                                              have n1_ := Aside0.mk (blk_drew BK374.out)
                                              have n2_ := Aside0.mk (blk_drew BK377.out)
                                              have n3_ := Aside0.mk (below_drew1 HB.out)
                                              clear HO_378002
                                              clear BK374
                                              clear BK377
                                              clear HB
                                              have HO_378002 := n0_
                                              have BK374 := n1_
                                              have BK377 := n2_
                                              have HB := n3_
                                              clear n0_ n1_ n2_ n3_
                                              refine start_ (n := 13) (S := fun w' => True) (ds := []) #[false, false, false, false, false, false, false, false, false, false, false, false, false] (by kernel_rfl) rfl rfl trivial (fun hHeld => ?_); refine with_tabW dasdref20_Decode.tab15 dasdref20_Decode.bits15 (fun HT_ HW_ => ?_)
                                              generalize w48.drew = w49 at HO_378002 BK374 BK377 HB hHeld ⊢
                                              refine pure_ (i := 0) (N := some 64) (v := ?_) (a' := ?_) #[true, false, false, false, false, false, false, false, false, false, false, false, false] rfl rfl (any_of HT_.out (by kernel_rfl)) (fun _ _ _ h => h) (Or.inl ⟨by rfl, ?_⟩) ?_ ?_
                                              rotate_left
                                              · intro w'
                                                go_simp
                                                with_reducible rfl
                                              rotate_left
                                              · simp only [Act.put, List.setIfInBounds_toArray, List.set_cons_zero, List.set_cons_succ, i64_w, i32_w]
                                                rfl
                                              refine pure_ (i := 1) (N := some 65) (v := ?_) (a' := ?_) #[true, true, false, false, false, false, false, false, false, false, false, false, false] rfl rfl (any_of HT_.out (by kernel_rfl)) (fun _ _ _ h => h) (Or.inl ⟨by rfl, ?_⟩) ?_ ?_
                                              rotate_left
                                              · intro w'
                                                go_simp
                                                with_reducible rfl
                                              rotate_left
                                              · simp only [Act.put, List.setIfInBounds_toArray, List.set_cons_zero, List.set_cons_succ, i64_w, i32_w]
                                                rfl
                                              refine pure_ (i := 2) (N := some 66) (v := ?_) (a' := ?_) #[true, true, true, false, false, false, false, false, false, false, false, false, false] rfl rfl (any_of HT_.out (by kernel_rfl)) (fun _ _ _ h => h) (Or.inl ⟨by rfl, ?_⟩) ?_ ?_
                                              rotate_left
                                              · intro w'
                                                go_simp
                                                with_reducible rfl
                                              rotate_left
                                              · simp only [Act.put, List.setIfInBounds_toArray, List.set_cons_zero, List.set_cons_succ, i64_w, i32_w]
                                                rfl
                                              refine pure_ (i := 3) (N := some 67) (v := ?_) (a' := ?_) #[true, true, true, true, false, false, false, false, false, false, false, false, false] rfl rfl (any_of HT_.out (by kernel_rfl)) (fun _ _ _ h => h) (Or.inl ⟨by rfl, ?_⟩) ?_ ?_
                                              rotate_left
                                              · intro w'
                                                go_simp
                                                with_reducible rfl
                                              rotate_left
                                              · simp only [Act.put, List.setIfInBounds_toArray, List.set_cons_zero, List.set_cons_succ, i64_w, i32_w]
                                                rfl
                                              refine pure_ (i := 4) (N := some 68) (v := ?_) (a' := ?_) #[true, true, true, true, true, false, false, false, false, false, false, false, false] rfl rfl (any_of HT_.out (by kernel_rfl)) (fun _ _ _ h => h) (Or.inl ⟨by rfl, ?_⟩) ?_ ?_
                                              rotate_left
                                              · intro w'
                                                go_simp
                                                with_reducible rfl
                                              rotate_left
                                              · simp only [Act.put, List.setIfInBounds_toArray, List.set_cons_zero, List.set_cons_succ, i64_w, i32_w]
                                                rfl
                                              refine pure_ (i := 5) (N := some 69) (v := ?_) (a' := ?_) #[true, true, true, true, true, true, false, false, false, false, false, false, false] rfl rfl (any_of HT_.out (by kernel_rfl)) (fun _ _ _ h => h) (Or.inl ⟨by rfl, ?_⟩) ?_ ?_
                                              rotate_left
                                              · intro w'
                                                go_simp
                                                with_reducible rfl
                                              rotate_left
                                              · simp only [Act.put, List.setIfInBounds_toArray, List.set_cons_zero, List.set_cons_succ, i64_w, i32_w]
                                                rfl
                                              refine pure_ (i := 6) (N := some 70) (v := ?_) (a' := ?_) #[true, true, true, true, true, true, true, false, false, false, false, false, false] rfl rfl (any_of HT_.out (by kernel_rfl)) (fun _ _ _ h => h) (Or.inl ⟨by rfl, ?_⟩) ?_ ?_
                                              rotate_left
                                              · intro w'
                                                go_simp
                                                with_reducible rfl
                                              rotate_left
                                              · simp only [Act.put, List.setIfInBounds_toArray, List.set_cons_zero, List.set_cons_succ, i64_w, i32_w]
                                                rfl
                                              refine pure_ (i := 7) (N := some 71) (v := ?_) (a' := ?_) #[true, true, true, true, true, true, true, true, false, false, false, false, false] rfl rfl (any_of HT_.out (by kernel_rfl)) (fun _ _ _ h => h) (Or.inl ⟨by rfl, ?_⟩) ?_ ?_
                                              rotate_left
                                              · intro w'
                                                go_simp
                                                with_reducible rfl
                                              rotate_left
                                              · simp only [Act.put, List.setIfInBounds_toArray, List.set_cons_zero, List.set_cons_succ, i64_w, i32_w]
                                                rfl
                                              refine pure_ (i := 8) (N := some 72) (v := ?_) (a' := ?_) #[true, true, true, true, true, true, true, true, true, false, false, false, false] rfl rfl (any_of HT_.out (by kernel_rfl)) (fun _ _ _ h => h) (Or.inl ⟨by rfl, ?_⟩) ?_ ?_
                                              rotate_left
                                              · intro w'
                                                go_simp
                                                with_reducible rfl
                                              rotate_left
                                              · simp only [Act.put, List.setIfInBounds_toArray, List.set_cons_zero, List.set_cons_succ, i64_w, i32_w]
                                                rfl
                                              refine pure_ (i := 9) (N := some 73) (v := ?_) (a' := ?_) #[true, true, true, true, true, true, true, true, true, true, false, false, false] rfl rfl (any_of HT_.out (by kernel_rfl)) (fun _ _ _ h => h) (Or.inl ⟨by rfl, ?_⟩) ?_ ?_
                                              rotate_left
                                              · intro w'
                                                go_simp
                                                with_reducible rfl
                                              rotate_left
                                              · simp only [Act.put, List.setIfInBounds_toArray, List.set_cons_zero, List.set_cons_succ, i64_w, i32_w]
                                                rfl
                                              refine pure_ (i := 10) (N := some 74) (v := ?_) (a' := ?_) #[true, true, true, true, true, true, true, true, true, true, true, false, false] rfl rfl (any_of HT_.out (by kernel_rfl)) (fun _ _ _ h => h) (Or.inl ⟨by rfl, ?_⟩) ?_ ?_
                                              rotate_left
                                              · intro w'
                                                go_simp
                                                with_reducible rfl
                                              rotate_left
                                              · simp only [Act.put, List.setIfInBounds_toArray, List.set_cons_zero, List.set_cons_succ, i64_w, i32_w]
                                                rfl
                                              refine pure_ (i := 11) (N := some 75) (v := ?_) (a' := ?_) #[true, true, true, true, true, true, true, true, true, true, true, true, false] rfl rfl (any_of HT_.out (by kernel_rfl)) (fun _ _ _ h => h) (Or.inl ⟨by rfl, ?_⟩) ?_ ?_
                                              rotate_left
                                              · intro w'
                                                go_simp
                                                with_reducible rfl
                                              rotate_left
                                              · simp only [Act.put, List.setIfInBounds_toArray, List.set_cons_zero, List.set_cons_succ, i64_w, i32_w]
                                                rfl
                                              refine pure_ (i := 12) (N := some 8) (v := ?_) (a' := ?_) #[true, true, true, true, true, true, true, true, true, true, true, true, true] rfl rfl (any_of HT_.out (by kernel_rfl)) (fun _ _ _ h => h) (Or.inl ⟨by rfl, ?_⟩) ?_ ?_
                                              rotate_left
                                              · intro w'
                                                go_simp
                                                with_reducible rfl
                                              rotate_left
                                              · simp only [Act.put, List.setIfInBounds_toArray, List.set_cons_zero, List.set_cons_succ, i64_w, i32_w]
                                                rfl
                                              refine done_ (done_of HT_.out (by kernel_rfl)) ?_
                                              try go_wp2_with (first | ((with_reducible refine gate_dst (N := 76) rfl ?_); refine Kd.R_lit k32 _ 32 ?hg (N := 76) ?hd (xs := ([] : List (S32))) (inner := []) (ok := fun _ => True) (okp := fun _ => True) ?hr ?hp (fun _ hk => hk) trivial (Below.refl _ _) (Nat.le_refl _) (by simp) ?_; (case hd => rfl); (case hg => rfl); (case hr => first | (go_simp; done) | (go_simp; rfl)); (case hp => exact (Reps.none _ _)); intro v381 w50 ho51 hb hg_ hnew_; clear hg_ hnew_; (first | rw [← Ny380.out] at ho51 | (simp only [Int.reduceToNat] at ho51; rw [← Ny380.out] at ho51)); have n0_ := Aside0.mk (Kd.R_elder' (by (with_reducible repeat (first | apply Kd.R_alloc | apply Kd.R_drewN | apply Kd.R_drew)); exact HO_378002.out) (Kd.R_base ho51) hb); have n1_ := Aside0.mk (Kd.R_lower (Kd.R_new' ho51 (Kd.R_lt (by (with_reducible repeat (first | apply Kd.R_alloc | apply Kd.R_drewN | apply Kd.R_drew)); exact HO_378002.out))) (below_size (by repeat (first | (with_reducible first | exact HB.out | apply below_alloc | apply pw_below_drewN | apply below_drew1 | refine below_set ?_ GE374.out | refine below_set ?_ GE377.out) | exact HB.out)))); have n2_ := Aside0.mk (blk_below (g := gb374) (o := .cells #[.int .i64 x375000_1, .int .i64 x375001_1, .slice none 0 0] 24 (0, 0)) (by (with_reducible repeat (first | refine blk_drewN ?_ _ | refine blk_drew ?_ | refine blk_alloc ?_ _)); exact BK374.out) hb); have n3_ := Aside0.mk (blk_below (g := gb377) (o := .cells #[.int .i64 (wrap64 (bt a1 0)), .int .i64 t376, u378002] 24 (0, 0)) (by (with_reducible repeat (first | refine blk_drewN ?_ _ | refine blk_drew ?_ | refine blk_alloc ?_ _)); exact BK377.out) hb); have n4_ := Aside0.mk (below_step (by repeat (first | (with_reducible first | exact HB.out | apply below_alloc | apply pw_below_drewN | apply below_drew1 | refine below_set ?_ GE374.out | refine below_set ?_ GE377.out) | exact HB.out)) hb); clear HO_378002; clear BK374; clear BK377; clear HB; have HO_378002 := n0_; have HO382 := n1_; have BK374 := n2_; have BK377 := n3_; have HB := n4_; clear n0_ n1_ n2_ n3_ n4_; clear hb ho51; have hnb52 := NB377_374.out; have hnc52 := NB374_377.out; have hcz53_0 : w50.cell? ⟨gb377, 0, none⟩ = some (.int .i64 (wrap64 (bt a1 0))) := (blk_cell BK377.out 0).trans rfl; have hcz53_1 : w50.cell? ⟨gb377, 1, none⟩ = some (.int .i64 t376) := (blk_cell BK377.out 1).trans rfl; have hcz53_2 : w50.cell? ⟨gb377, 2, none⟩ = some (u378002) := (blk_cell BK377.out 2).trans rfl; have hfz53_0 := blk_frozen BK377.out 0; have hfz53_1 := blk_frozen BK377.out 1; have hfz53_2 := blk_frozen BK377.out 2; obtain ⟨Ao55, co55, eo55⟩ := Kd.R_slice HO_378002.out; subst eo55) | ((with_reducible refine gate_builtin (b := .append) (xs := #[.tmp 76, .tmp 78]) rfl ?_); at_builtin; refine Kd.R_append_rows k32 (w0 := w) w.heap.size rfl (.tmp 76) (.tmp 78) 22 32 (.agg #[(.string ⟨#[]⟩), (.int .i64 0)]) 24 rfl Try.underlying22 info32 rfl (by decide) (by omega) v381 y380 x378002_1 _ _ _ (fun k_ => some k_ ≠ (.slice Ao55 x378002_1.length co55 : Value).ownBlock) (fun _ => False) rfl rfl ?aO ?aR (fun _ _ h => h) (fun _ h => h.elim) ?aF ?aB ?aS ?aL ?_; (case aR => repeat (first | exact (Kd.R_reads' HO_378002.out).2.2 | (with_reducible refine Kd.C_alloc ?_ _) | (with_reducible refine Kd.C_drewN ?_ _) | (with_reducible refine Kd.C_drew ?_))); (case aB => exact (by repeat (first | (with_reducible first | exact HB.out | apply below_alloc | apply pw_below_drewN | apply below_drew1 | refine below_set ?_ GE374.out | refine below_set ?_ GE377.out) | exact HB.out))); (case aF => exact (fun k_ hk => Kd.fresh' (Kd.R_lt (by (with_reducible repeat (first | apply Kd.R_alloc | apply Kd.R_drewN | apply Kd.R_drew)); exact HO_378002.out)) k_ hk)); (case aO => exact (by (with_reducible repeat (first | apply Kd.R_alloc | apply Kd.R_drewN | apply Kd.R_drew)); exact Kd.R_mono HO382.out (fun _ hk => hk.2))); (case aS => exact (below_size (by repeat (first | (with_reducible first | exact HB.out | apply below_alloc | apply pw_below_drewN | apply below_drew1 | refine below_set ?_ GE374.out | refine below_set ?_ GE377.out) | exact HB.out)))); (case aL => have := LMc45.out; omega); intro v384 w54 ho hb hg hat; rw [← Ny383.out] at ho; have n0_ := Aside0.mk (Kd.R_after (ok := (fun _ => True)) (by (with_reducible repeat (first | apply Kd.R_alloc | apply Kd.R_drewN | apply Kd.R_drew)); first | exact HO_378002.out | exact (Kd.R_mono HO_378002.out (fun _ h_ => ⟨trivial, h_⟩))) hg hat); have n1_ := Aside0.mk (blk_grown (g := gb374) (o := .cells #[.int .i64 x375000_1, .int .i64 x375001_1, .slice none 0 0] 24 (0, 0)) (by (with_reducible repeat (first | refine blk_drewN ?_ _ | refine blk_drew ?_ | refine blk_alloc ?_ _)); exact BK374.out) hg (Kd.R_ne HO382.out BK374.out (by decide))); have n2_ := Aside0.mk (blk_grown (g := gb377) (o := .cells #[.int .i64 (wrap64 (bt a1 0)), .int .i64 t376, .slice Ao55 x378002_1.length co55] 24 (0, 0)) (by (with_reducible repeat (first | refine blk_drewN ?_ _ | refine blk_drew ?_ | refine blk_alloc ?_ _)); exact BK377.out) hg (Kd.R_ne HO382.out BK377.out (by decide))); have n3_ := Aside0.mk (hb); have n4_ := Aside0.mk (ho); clear HO_378002; clear BK374; clear BK377; clear HB; clear HO382; have HO_378002 := n0_; have BK374 := n1_; have BK377 := n2_; have HB := n3_; have HO385 := n4_; clear n0_ n1_ n2_ n3_ n4_; clear ho hb hg hat) | ((with_reducible refine gate_callee (f := 40) rfl ?_); refine goesL_ (some 86) rfl rfl Try.func40 (by kernel_rfl) rfl #[.string a1, .int .i64 (wrap64 ((ji40) + (wrap64 (bt a1 (ji25)))))] rfl (by (try simp only [List.map_toArray, List.map_cons, List.map_nil]); first | done | (simp only [hji25, hji40]; rfl) | rfl | (simp only [List.length_drop, List.length_take]; rfl)) ?_; (with_reducible refine (dasdref20_number.calls a1 (wrap64 ((ji40) + (wrap64 (bt a1 (ji25))))) t386 _ A46.out).mono ?_); rintro e w' ⟨rfl, ⟨nd, rfl⟩⟩; refine ⟨_, rfl, ?_⟩; (try (rw [drewN_self w54]; generalize hq_ : World.drewN w54 _ = w54; have n0_ : Aside0 (Kd.R k32 32 w54 w.heap.size (fun k_ => some k_ ≠ (.slice Ao55 x378002_1.length co55 : Value).ownBlock) v384 y383) := ⟨by rw [← hq_]; exact (by (with_reducible repeat (first | apply Kd.R_alloc | apply Kd.R_drewN | apply Kd.R_drew)); exact HO385.out)⟩; have n1_ : Aside0 (Kd.R k32 32 w54 w.heap.size (fun k_ => some k_ ≠ (v384 : Value).ownBlock) (.slice Ao55 x378002_1.length co55) x378002_1) := ⟨by rw [← hq_]; exact (by (with_reducible repeat (first | apply Kd.R_alloc | apply Kd.R_drewN | apply Kd.R_drew)); exact Kd.R_mono HO_378002.out (fun _ hk => hk.2))⟩; have n2_ : Aside0 (w54.heap[gb374]? = some (.cells #[.int .i64 x375000_1, .int .i64 x375001_1, .slice none 0 0] 24 (0, 0))) := ⟨by rw [← hq_]; exact (by (with_reducible repeat (first | refine blk_drewN ?_ _ | refine blk_drew ?_ | refine blk_alloc ?_ _)); exact BK374.out)⟩; have n3_ : Aside0 (w54.heap[gb377]? = some (.cells #[.int .i64 (wrap64 (bt a1 0)), .int .i64 t376, .slice Ao55 x378002_1.length co55] 24 (0, 0))) := ⟨by rw [← hq_]; exact (by (with_reducible repeat (first | refine blk_drewN ?_ _ | refine blk_drew ?_ | refine blk_alloc ?_ _)); exact BK377.out)⟩; have n4_ : Aside0 (Below w.heap.size w w54) := ⟨by rw [← hq_]; exact (by repeat (first | (with_reducible first | exact HB.out | apply below_alloc | apply pw_below_drewN | apply below_drew1 | refine below_set ?_ GE374.out | refine below_set ?_ GE377.out) | exact HB.out))⟩; clear HO385 HO_378002 BK374 BK377 HB hq_; have HO385 := n0_; have HO_378002 := n1_; have BK374 := n2_; have BK377 := n3_; have HB := n4_; clear n0_ n1_ n2_ n3_ n4_))) | ((with_reducible refine gate_builtin (b := .append) (xs := #[.tmp 79, .tmp 88]) rfl ?_); at_builtin; refine Kd.R_append k32 (w0 := w) w.heap.size rfl (.tmp 79) (.tmp 88) 22 32 (.agg #[(.string ⟨#[]⟩), (.int .i64 0)]) 24 rfl Try.underlying22 info32 rfl (by decide) (by omega) v384 y383 (⟨(x8_1.extract 0 ((ji37) : Int).toNat) ++ (a1.extract ((ji40) : Int).toNat ((wrap64 ((ji40) + (wrap64 (bt a1 (ji25))))) : Int).toNat), t386⟩ : S32) [.string ((x8_1.extract 0 ((ji37) : Int).toNat) ++ (a1.extract ((ji40) : Int).toNat ((wrap64 ((ji40) + (wrap64 (bt a1 (ji25))))) : Int).toNat)), .int .i64 t386] (fun k_ => some k_ ≠ (.slice Ao55 x378002_1.length co55 : Value).ownBlock) (fun _ => False) rfl rfl ?aP (fun _ hk => hk.elim) ?aF ?aO ?aB ?aS ?aL ?_; (case aP => exact k32_mkM _ _ _ (⟨(x8_1.extract 0 ((ji37) : Int).toNat) ++ (a1.extract ((ji40) : Int).toNat ((wrap64 ((ji40) + (wrap64 (bt a1 (ji25))))) : Int).toNat), t386⟩ : S32)); (case aB => exact (by repeat (first | (with_reducible first | exact HB.out | apply below_alloc | apply pw_below_drewN | apply below_drew1 | refine below_set ?_ GE374.out | refine below_set ?_ GE377.out) | exact HB.out))); (case aF => exact (fun k_ hk => Kd.fresh' (Kd.R_lt (by (with_reducible repeat (first | apply Kd.R_alloc | apply Kd.R_drewN | apply Kd.R_drew)); exact HO_378002.out)) k_ hk)); (case aO => exact (by (with_reducible repeat (first | apply Kd.R_alloc | apply Kd.R_drewN | apply Kd.R_drew)); exact HO385.out)); (case aS => exact (below_size (by repeat (first | (with_reducible first | exact HB.out | apply below_alloc | apply pw_below_drewN | apply below_drew1 | refine below_set ?_ GE374.out | refine below_set ?_ GE377.out) | exact HB.out)))); (case aL => have := LMc47.out; omega); intro v388 w56 ho hb hg hat; rw [← Ny387.out] at ho; have n0_ := Aside0.mk (Kd.R_after (ok := (fun _ => True)) (by (with_reducible repeat (first | apply Kd.R_alloc | apply Kd.R_drewN | apply Kd.R_drew)); first | exact HO_378002.out | exact (Kd.R_mono HO_378002.out (fun _ h_ => ⟨trivial, h_⟩))) hg hat); have n1_ := Aside0.mk (blk_grown (g := gb374) (o := .cells #[.int .i64 x375000_1, .int .i64 x375001_1, .slice none 0 0] 24 (0, 0)) (by (with_reducible repeat (first | refine blk_drewN ?_ _ | refine blk_drew ?_ | refine blk_alloc ?_ _)); exact BK374.out) hg (Kd.R_ne HO385.out BK374.out (by decide))); have n2_ := Aside0.mk (blk_grown (g := gb377) (o := .cells #[.int .i64 (wrap64 (bt a1 0)), .int .i64 t376, .slice Ao55 x378002_1.length co55] 24 (0, 0)) (by (with_reducible repeat (first | refine blk_drewN ?_ _ | refine blk_drew ?_ | refine blk_alloc ?_ _)); exact BK377.out) hg (Kd.R_ne HO385.out BK377.out (by decide))); have n3_ := Aside0.mk (hb); have n4_ := Aside0.mk (ho); clear HO_378002; clear BK374; clear BK377; clear HB; clear HO385; have HO_378002 := n0_; have BK374 := n1_; have BK377 := n2_; have HB := n3_; have HO389 := n4_; clear n0_ n1_ n2_ n3_ n4_; clear ho hb hg hat; obtain ⟨Ao57, co57, eo57⟩ := Kd.R_slice HO389.out; subst eo57; have hcz58_0 : w56.cell? ⟨gb377, 0, none⟩ = some (.int .i64 (wrap64 (bt a1 0))) := (blk_cell BK377.out 0).trans rfl; have hcz58_1 : w56.cell? ⟨gb377, 1, none⟩ = some (.int .i64 t376) := (blk_cell BK377.out 1).trans rfl; have hcz58_2 : w56.cell? ⟨gb377, 2, none⟩ = some (.slice Ao55 x378002_1.length co55) := (blk_cell BK377.out 2).trans rfl; have hfz58_0 := blk_frozen BK377.out 0; have hfz58_1 := blk_frozen BK377.out 1; have hfz58_2 := blk_frozen BK377.out 2))
                                              go_roundg k1
                                              case measure => have := HK1.out; omega
                                              case rel => exact ⟨(wrap64 ((wrap64 (x7_1 + 6)) + (wrap64 (bt a1 (ji25))))), ((x8_1.extract 0 ((ji37) : Int).toNat) ++ (a1.extract ((ji40) : Int).toNat ((wrap64 ((ji40) + (wrap64 (bt a1 (ji25))))) : Int).toNat)), (wrap64 (x9_1 + 1)), (x375000_1), (x375001_1), (y387), (.slice Ao57 y387.length co57), (by first | rfl | (simp; done) | (simp only [← hji25] <;> (first | rfl | simp)) | (simp [*]; done)), (by first | rfl | (simp; done) | (simp only [← hji25, ← hji37, ← hji40] <;> (first | rfl | simp)) | (simp [*]; done)), (by first | rfl | (simp; done) | (simp [*]; done)), H', ⟨by have := HK1.out; omega⟩, ⟨by (with_reducible repeat (first | apply Kd.R_alloc | apply Kd.R_drewN | apply Kd.R_drew)); exact Kd.R_mono (Kd.R_far (p := ⟨gb377, 2, none⟩) (Kd.R_types HO389.out BK377.out (by decide)) (fun _ hk => hk.2) (.slice Ao57 y387.length co57)) (fun _ hk => trivial)⟩, ⟨by (with_reducible repeat (first | refine blk_drewN ?_ _ | refine blk_drew ?_ | refine blk_alloc ?_ _)); refine blk_far ?_ NB374_377.out _; (with_reducible repeat (first | refine blk_drewN ?_ _ | refine blk_drew ?_ | refine blk_alloc ?_ _)); exact BK374.out⟩, ⟨by (with_reducible repeat (first | refine blk_drewN ?_ _ | refine blk_drew ?_ | refine blk_alloc ?_ _)); refine blk_put (cs := #[.int .i64 (wrap64 (bt a1 0)), .int .i64 t376, .slice Ao55 x378002_1.length co55]) ?_ 2 _ rfl; (with_reducible repeat (first | refine blk_drewN ?_ _ | refine blk_drew ?_ | refine blk_alloc ?_ _)); exact BK377.out⟩, ⟨by repeat (first | (with_reducible first | exact HB.out | apply below_alloc | apply pw_below_drewN | apply below_drew1 | refine below_set ?_ GE374.out | refine below_set ?_ GE377.out) | exact HB.out)⟩⟩
                                            · rw [if_neg c47] at H
                                              exact absurd H (by simp)
                                          · rw [if_neg c45] at H
                                            exact absurd H (by simp)
                                        · rw [if_neg c44] at H
                                          exact absurd H (by simp)
                                      · rw [if_neg c43] at H
                                        exact absurd H (by simp)
                                    · rw [if_neg c42] at H
                                      exact absurd H (by simp)
                                  · rw [if_neg c41] at H
                                    exact absurd H (by simp)
                                · rw [if_neg c39] at H
                                  exact absurd H (by simp)
                              · rw [if_neg c38] at H
                                exact absurd H (by simp)
                        · rw [if_neg c27] at H
                          exact absurd H (by simp)
                      · rw [if_neg c26] at H
                        exact absurd H (by simp)
                    · rw [if_neg c23] at H
                      exact absurd H (by simp)
                  · rw [if_neg c22] at H
                    exact absurd H (by simp)
              · rw [if_neg c18] at H
                have c18b0 : decide (x9_1 < (wrap64 (bt a1 5))) = false := decide_eq_false c18
                clear c18
                replace H := Option.bind_eq_some_iff.mp H
                obtain ⟨⟨t378, t379⟩, A590, H⟩ := H
                replace H : (if t379 = 0 then (if t378.toList = a1.toList then (some ((wrap64 (bt a1 0)), t376, x378002_1, 0)) else (some (0, 0, ([] : List (S32)), 11))) else (some (0, 0, ([] : List (S32)), 11))) = some (r1, r2, r3, r4) := H
                have A59 := Aside0.mk A590
                clear A590
                by_cases c60 : t379 = 0
                · rw [if_pos c60] at H
                  have c60b0 : (t379 == 0) = true := beq_iff_eq.mpr c60
                  have c60b1 : (t379 != 0) = false := bne_eq_false_iff_eq.mpr c60
                  clear c60
                  by_cases c61 : t378.toList = a1.toList
                  · rw [if_pos c61] at H
                    have c61b0 : (t378.toList == a1.toList) = true := beq_iff_eq.mpr c61
                    have c61b1 : (t378.toList != a1.toList) = false := bne_eq_false_iff_eq.mpr c61
                    clear c61
                    simp only [Option.some.injEq, Prod.mk.injEq] at H
                    obtain ⟨rfl, rfl, rfl, rfl⟩ := H
                    have p17 : 0 ≤ (5 : Int) := (by omega)
                    have q17 : 5 < a1.size := (by have : (5 : Int) < (a1.size : Int) := of_decide_eq_true (by first | (with_reducible assumption) | assumption); omega)
                    have hx17 : ∀ h : 5 < a1.size, ((a1[5]'h).toNat : Int) = bt a1 5 := bt_at a1 5
                    clear p17
                    have qi17 : (5 < (a1.size : Int)) = True := eq_true (of_decide_eq_true (by first | (with_reducible assumption) | assumption))
                    replace q17 := eq_true q17
                    have hnb62 := NB377_374.out
                    have hnc62 := NB374_377.out
                    have hcz63_0 : wr.cell? ⟨gb377, 0, none⟩ = some (.int .i64 (wrap64 (bt a1 0))) := (blk_cell BK377.out 0).trans rfl
                    have hcz63_1 : wr.cell? ⟨gb377, 1, none⟩ = some (.int .i64 t376) := (blk_cell BK377.out 1).trans rfl
                    have hcz63_2 : wr.cell? ⟨gb377, 2, none⟩ = some (u378002) := (blk_cell BK377.out 2).trans rfl
                    have hfz63_0 := blk_frozen BK377.out 0
                    have hfz63_1 := blk_frozen BK377.out 1
                    have hfz63_2 := blk_frozen BK377.out 2
                    obtain ⟨Ao64, co64, eo64⟩ := Kd.R_slice HO_378002.out
                    subst eo64
                    go_wp2_with (first | ((with_reducible refine gate_callee (f := 24) rfl ?_); refine goesL_ (some 98) rfl rfl Try.func24 (by kernel_rfl) rfl #[.int .i64 a0, .agg #[.int .i64 (wrap64 (bt a1 0)), .int .i64 t376, .slice Ao64 x378002_1.length co64]] rfl (by (try simp only [List.map_toArray, List.map_cons, List.map_nil]); first | done | rfl | (simp only [List.length_drop, List.length_take]; rfl)) ?_; (with_reducible refine (dasdref20_Encode.calls k1 a0 (wrap64 (bt a1 0)) t376 _ _ x378002_1 t378 t379 _ ?side1 ?side2 A59.out).mono ?_); (case side1 => repeat (first | exact (Kd.R_reads' HO_378002.out).2.2 | (with_reducible refine Kd.C_alloc ?_ _) | (with_reducible refine Kd.C_drewN ?_ _) | (with_reducible refine Kd.C_drew ?_))); (case side2 => exact (Kd.R_reads' HO_378002.out).2.1); rintro e w65 ⟨rfl, hb⟩; refine ⟨_, rfl, ?_⟩; have n0_ := Aside0.mk (Kd.R_below (by (with_reducible repeat (first | apply Kd.R_alloc | apply Kd.R_drewN | apply Kd.R_drew)); exact HO_378002.out) hb); have n1_ := Aside0.mk (blk_below (g := gb374) (o := .cells #[.int .i64 x375000_1, .int .i64 x375001_1, .slice none 0 0] 24 (0, 0)) (by (with_reducible repeat (first | refine blk_drewN ?_ _ | refine blk_drew ?_ | refine blk_alloc ?_ _)); exact BK374.out) hb); have n2_ := Aside0.mk (blk_below (g := gb377) (o := .cells #[.int .i64 (wrap64 (bt a1 0)), .int .i64 t376, .slice Ao64 x378002_1.length co64] 24 (0, 0)) (by (with_reducible repeat (first | refine blk_drewN ?_ _ | refine blk_drew ?_ | refine blk_alloc ?_ _)); exact BK377.out) hb); have n3_ := Aside0.mk (below_step (by repeat (first | (with_reducible first | exact HB.out | apply below_alloc | apply pw_below_drewN | apply below_drew1 | refine below_set ?_ GE374.out | refine below_set ?_ GE377.out) | exact HB.out)) hb); clear HO_378002; clear BK374; clear BK377; clear HB; have HO_378002 := n0_; have BK374 := n1_; have BK377 := n2_; have HB := n3_; clear n0_ n1_ n2_ n3_; (try clear hb); (try clear hb2); (try clear hk); (try clear hi); have hcz66_0 : w65.cell? ⟨gb377, 0, none⟩ = some (.int .i64 (wrap64 (bt a1 0))) := (blk_cell BK377.out 0).trans rfl; have hcz66_1 : w65.cell? ⟨gb377, 1, none⟩ = some (.int .i64 t376) := (blk_cell BK377.out 1).trans rfl; have hcz66_2 : w65.cell? ⟨gb377, 2, none⟩ = some (.slice Ao64 x378002_1.length co64) := (blk_cell BK377.out 2).trans rfl; have hfz66_0 := blk_frozen BK377.out 0; have hfz66_1 := blk_frozen BK377.out 1; have hfz66_2 := blk_frozen BK377.out 2; have hcz67_0 : w65.cell? ⟨gb374, 0, none⟩ = some (.int .i64 x375000_1) := (blk_cell BK374.out 0).trans rfl; have hcz67_1 : w65.cell? ⟨gb374, 1, none⟩ = some (.int .i64 x375001_1) := (blk_cell BK374.out 1).trans rfl; have hcz67_2 : w65.cell? ⟨gb374, 2, none⟩ = some (.slice none 0 0) := (blk_cell BK374.out 2).trans rfl; have hfz67_0 := blk_frozen BK374.out 0; have hfz67_1 := blk_frozen BK374.out 1; have hfz67_2 := blk_frozen BK374.out 2))
                    refine bodyPost_ret (results_ct rfl _ _ gb374 24 #[.int .i64 (wrap64 (bt a1 0)), .int .i64 t376, .slice Ao64 x378002_1.length co64] (0, 0) _ rfl (by (with_reducible repeat (first | refine blk_drewN ?_ _ | refine blk_drew ?_ | refine blk_alloc ?_ _)); refine blk_put (cs := #[.int .i64 (wrap64 (bt a1 0)), .int .i64 t376, .slice none 0 0]) ?_ 2 _ rfl; (with_reducible repeat (first | refine blk_drewN ?_ _ | refine blk_drew ?_ | refine blk_alloc ?_ _)); refine blk_put (cs := #[.int .i64 (wrap64 (bt a1 0)), .int .i64 x375001_1, .slice none 0 0]) ?_ 1 _ rfl; (with_reducible repeat (first | refine blk_drewN ?_ _ | refine blk_drew ?_ | refine blk_alloc ?_ _)); refine blk_put (cs := #[.int .i64 x375000_1, .int .i64 x375001_1, .slice none 0 0]) ?_ 0 _ rfl; (with_reducible repeat (first | refine blk_drewN ?_ _ | refine blk_drew ?_ | refine blk_alloc ?_ _)); exact BK374.out) Try.underlying24 rfl (by kernel_rfl)) rfl ?_
                    exact ⟨_, by first | rfl | (simp [errW_none, errW_some] <;> rfl) | (simp [*, errW_none, errW_some] <;> rfl), by (with_reducible repeat (first | apply Kd.R_alloc | apply Kd.R_drewN | apply Kd.R_drew)); exact Kd.R_mono (Kd.R_far (p := ⟨gb374, 2, none⟩) (Kd.R_far (p := ⟨gb374, 1, none⟩) (Kd.R_far (p := ⟨gb374, 0, none⟩) (Kd.R_types HO_378002.out BK374.out (by decide)) (fun _ hk => hk.2) (.int .i64 (wrap64 (bt a1 0)))) (fun _ hk => hk.2) (.int .i64 t376)) (fun _ hk => hk.2) (.slice Ao64 x378002_1.length co64)) (fun _ hk => trivial), by repeat (first | (with_reducible first | exact HB.out | apply below_alloc | apply pw_below_drewN | apply below_drew1 | refine below_set ?_ GE374.out | refine below_set ?_ GE377.out) | exact HB.out)⟩
                  · rw [if_neg c61] at H
                    have c61b0 : (t378.toList == a1.toList) = false := beq_eq_false_iff_ne.mpr c61
                    have c61b1 : (t378.toList != a1.toList) = true := bne_iff_ne.mpr c61
                    simp only [Option.some.injEq, Prod.mk.injEq] at H
                    obtain ⟨rfl, rfl, rfl, rfl⟩ := H
                    have p17 : 0 ≤ (5 : Int) := (by omega)
                    have q17 : 5 < a1.size := (by have : (5 : Int) < (a1.size : Int) := of_decide_eq_true (by first | (with_reducible assumption) | assumption); omega)
                    have hx17 : ∀ h : 5 < a1.size, ((a1[5]'h).toNat : Int) = bt a1 5 := bt_at a1 5
                    clear p17
                    have qi17 : (5 < (a1.size : Int)) = True := eq_true (of_decide_eq_true (by first | (with_reducible assumption) | assumption))
                    replace q17 := eq_true q17
                    have hnb68 := NB377_374.out
                    have hnc68 := NB374_377.out
                    have hcz69_0 : wr.cell? ⟨gb377, 0, none⟩ = some (.int .i64 (wrap64 (bt a1 0))) := (blk_cell BK377.out 0).trans rfl
                    have hcz69_1 : wr.cell? ⟨gb377, 1, none⟩ = some (.int .i64 t376) := (blk_cell BK377.out 1).trans rfl
                    have hcz69_2 : wr.cell? ⟨gb377, 2, none⟩ = some (u378002) := (blk_cell BK377.out 2).trans rfl
                    have hfz69_0 := blk_frozen BK377.out 0
                    have hfz69_1 := blk_frozen BK377.out 1
                    have hfz69_2 := blk_frozen BK377.out 2
                    obtain ⟨Ao70, co70, eo70⟩ := Kd.R_slice HO_378002.out
                    subst eo70
                    go_wp2_with (first | ((with_reducible refine gate_callee (f := 24) rfl ?_); refine goesL_ (some 98) rfl rfl Try.func24 (by kernel_rfl) rfl #[.int .i64 a0, .agg #[.int .i64 (wrap64 (bt a1 0)), .int .i64 t376, .slice Ao70 x378002_1.length co70]] rfl (by (try simp only [List.map_toArray, List.map_cons, List.map_nil]); first | done | rfl | (simp only [List.length_drop, List.length_take]; rfl)) ?_; (with_reducible refine (dasdref20_Encode.calls k1 a0 (wrap64 (bt a1 0)) t376 _ _ x378002_1 t378 t379 _ ?side1 ?side2 A59.out).mono ?_); (case side1 => repeat (first | exact (Kd.R_reads' HO_378002.out).2.2 | (with_reducible refine Kd.C_alloc ?_ _) | (with_reducible refine Kd.C_drewN ?_ _) | (with_reducible refine Kd.C_drew ?_))); (case side2 => exact (Kd.R_reads' HO_378002.out).2.1); rintro e w71 ⟨rfl, hb⟩; refine ⟨_, rfl, ?_⟩; have n0_ := Aside0.mk (Kd.R_below (by (with_reducible repeat (first | apply Kd.R_alloc | apply Kd.R_drewN | apply Kd.R_drew)); exact HO_378002.out) hb); have n1_ := Aside0.mk (blk_below (g := gb374) (o := .cells #[.int .i64 x375000_1, .int .i64 x375001_1, .slice none 0 0] 24 (0, 0)) (by (with_reducible repeat (first | refine blk_drewN ?_ _ | refine blk_drew ?_ | refine blk_alloc ?_ _)); exact BK374.out) hb); have n2_ := Aside0.mk (blk_below (g := gb377) (o := .cells #[.int .i64 (wrap64 (bt a1 0)), .int .i64 t376, .slice Ao70 x378002_1.length co70] 24 (0, 0)) (by (with_reducible repeat (first | refine blk_drewN ?_ _ | refine blk_drew ?_ | refine blk_alloc ?_ _)); exact BK377.out) hb); have n3_ := Aside0.mk (below_step (by repeat (first | (with_reducible first | exact HB.out | apply below_alloc | apply pw_below_drewN | apply below_drew1 | refine below_set ?_ GE374.out | refine below_set ?_ GE377.out) | exact HB.out)) hb); clear HO_378002; clear BK374; clear BK377; clear HB; have HO_378002 := n0_; have BK374 := n1_; have BK377 := n2_; have HB := n3_; clear n0_ n1_ n2_ n3_; (try clear hb); (try clear hb2); (try clear hk); (try clear hi); have hcz72_0 : w71.cell? ⟨gb374, 0, none⟩ = some (.int .i64 x375000_1) := (blk_cell BK374.out 0).trans rfl; have hcz72_1 : w71.cell? ⟨gb374, 1, none⟩ = some (.int .i64 x375001_1) := (blk_cell BK374.out 1).trans rfl; have hcz72_2 : w71.cell? ⟨gb374, 2, none⟩ = some (.slice none 0 0) := (blk_cell BK374.out 2).trans rfl; have hfz72_0 := blk_frozen BK374.out 0; have hfz72_1 := blk_frozen BK374.out 1; have hfz72_2 := blk_frozen BK374.out 2))
                    refine bodyPost_ret (results_ct rfl _ _ gb374 24 #[.int .i64 0, .int .i64 0, .slice none 0 0] (0, 0) _ rfl (by (with_reducible repeat (first | refine blk_drewN ?_ _ | refine blk_drew ?_ | refine blk_alloc ?_ _)); refine blk_put (cs := #[.int .i64 0, .int .i64 0, .slice none 0 0]) ?_ 2 _ rfl; (with_reducible repeat (first | refine blk_drewN ?_ _ | refine blk_drew ?_ | refine blk_alloc ?_ _)); refine blk_put (cs := #[.int .i64 0, .int .i64 x375001_1, .slice none 0 0]) ?_ 1 _ rfl; (with_reducible repeat (first | refine blk_drewN ?_ _ | refine blk_drew ?_ | refine blk_alloc ?_ _)); refine blk_put (cs := #[.int .i64 x375000_1, .int .i64 x375001_1, .slice none 0 0]) ?_ 0 _ rfl; (with_reducible repeat (first | refine blk_drewN ?_ _ | refine blk_drew ?_ | refine blk_alloc ?_ _)); exact BK374.out) Try.underlying24 rfl (by kernel_rfl)) rfl ?_
                    exact ⟨_, by first | rfl | (simp [errW_none, errW_some] <;> rfl) | (simp [*, errW_none, errW_some] <;> rfl), by first | exact Kd.R_nil _ _ _ _ _ | exact Kd.N_nil _ _ _ _ _ | exact Kd.V_nil _ _ _ _ _ | exact Kd.Q_nil _ _ _ _ _ | exact Kd.S_nil _ _ _ _ _, by repeat (first | (with_reducible first | exact HB.out | apply below_alloc | apply pw_below_drewN | apply below_drew1 | refine below_set ?_ GE374.out | refine below_set ?_ GE377.out) | exact HB.out)⟩
                · rw [if_neg c60] at H
                  have c60b0 : (t379 == 0) = false := beq_eq_false_iff_ne.mpr c60
                  have c60b1 : (t379 != 0) = true := bne_iff_ne.mpr c60
                  simp only [Option.some.injEq, Prod.mk.injEq] at H
                  obtain ⟨rfl, rfl, rfl, rfl⟩ := H
                  have p17 : 0 ≤ (5 : Int) := (by omega)
                  have q17 : 5 < a1.size := (by have : (5 : Int) < (a1.size : Int) := of_decide_eq_true (by first | (with_reducible assumption) | assumption); omega)
                  have hx17 : ∀ h : 5 < a1.size, ((a1[5]'h).toNat : Int) = bt a1 5 := bt_at a1 5
                  clear p17
                  have qi17 : (5 < (a1.size : Int)) = True := eq_true (of_decide_eq_true (by first | (with_reducible assumption) | assumption))
                  replace q17 := eq_true q17
                  have hnb73 := NB377_374.out
                  have hnc73 := NB374_377.out
                  have hcz74_0 : wr.cell? ⟨gb377, 0, none⟩ = some (.int .i64 (wrap64 (bt a1 0))) := (blk_cell BK377.out 0).trans rfl
                  have hcz74_1 : wr.cell? ⟨gb377, 1, none⟩ = some (.int .i64 t376) := (blk_cell BK377.out 1).trans rfl
                  have hcz74_2 : wr.cell? ⟨gb377, 2, none⟩ = some (u378002) := (blk_cell BK377.out 2).trans rfl
                  have hfz74_0 := blk_frozen BK377.out 0
                  have hfz74_1 := blk_frozen BK377.out 1
                  have hfz74_2 := blk_frozen BK377.out 2
                  obtain ⟨Ao75, co75, eo75⟩ := Kd.R_slice HO_378002.out
                  subst eo75
                  go_wp2_with (first | ((with_reducible refine gate_callee (f := 24) rfl ?_); refine goesL_ (some 98) rfl rfl Try.func24 (by kernel_rfl) rfl #[.int .i64 a0, .agg #[.int .i64 (wrap64 (bt a1 0)), .int .i64 t376, .slice Ao75 x378002_1.length co75]] rfl (by (try simp only [List.map_toArray, List.map_cons, List.map_nil]); first | done | rfl | (simp only [List.length_drop, List.length_take]; rfl)) ?_; (with_reducible refine (dasdref20_Encode.calls k1 a0 (wrap64 (bt a1 0)) t376 _ _ x378002_1 t378 t379 _ ?side1 ?side2 A59.out).mono ?_); (case side1 => repeat (first | exact (Kd.R_reads' HO_378002.out).2.2 | (with_reducible refine Kd.C_alloc ?_ _) | (with_reducible refine Kd.C_drewN ?_ _) | (with_reducible refine Kd.C_drew ?_))); (case side2 => exact (Kd.R_reads' HO_378002.out).2.1); rintro e w76 ⟨rfl, hb⟩; refine ⟨_, rfl, ?_⟩; have n0_ := Aside0.mk (Kd.R_below (by (with_reducible repeat (first | apply Kd.R_alloc | apply Kd.R_drewN | apply Kd.R_drew)); exact HO_378002.out) hb); have n1_ := Aside0.mk (blk_below (g := gb374) (o := .cells #[.int .i64 x375000_1, .int .i64 x375001_1, .slice none 0 0] 24 (0, 0)) (by (with_reducible repeat (first | refine blk_drewN ?_ _ | refine blk_drew ?_ | refine blk_alloc ?_ _)); exact BK374.out) hb); have n2_ := Aside0.mk (blk_below (g := gb377) (o := .cells #[.int .i64 (wrap64 (bt a1 0)), .int .i64 t376, .slice Ao75 x378002_1.length co75] 24 (0, 0)) (by (with_reducible repeat (first | refine blk_drewN ?_ _ | refine blk_drew ?_ | refine blk_alloc ?_ _)); exact BK377.out) hb); have n3_ := Aside0.mk (below_step (by repeat (first | (with_reducible first | exact HB.out | apply below_alloc | apply pw_below_drewN | apply below_drew1 | refine below_set ?_ GE374.out | refine below_set ?_ GE377.out) | exact HB.out)) hb); clear HO_378002; clear BK374; clear BK377; clear HB; have HO_378002 := n0_; have BK374 := n1_; have BK377 := n2_; have HB := n3_; clear n0_ n1_ n2_ n3_; (try clear hb); (try clear hb2); (try clear hk); (try clear hi); have hcz77_0 : w76.cell? ⟨gb374, 0, none⟩ = some (.int .i64 x375000_1) := (blk_cell BK374.out 0).trans rfl; have hcz77_1 : w76.cell? ⟨gb374, 1, none⟩ = some (.int .i64 x375001_1) := (blk_cell BK374.out 1).trans rfl; have hcz77_2 : w76.cell? ⟨gb374, 2, none⟩ = some (.slice none 0 0) := (blk_cell BK374.out 2).trans rfl; have hfz77_0 := blk_frozen BK374.out 0; have hfz77_1 := blk_frozen BK374.out 1; have hfz77_2 := blk_frozen BK374.out 2))
                  refine bodyPost_ret (results_ct rfl _ _ gb374 24 #[.int .i64 0, .int .i64 0, .slice none 0 0] (0, 0) _ rfl (by (with_reducible repeat (first | refine blk_drewN ?_ _ | refine blk_drew ?_ | refine blk_alloc ?_ _)); refine blk_put (cs := #[.int .i64 0, .int .i64 0, .slice none 0 0]) ?_ 2 _ rfl; (with_reducible repeat (first | refine blk_drewN ?_ _ | refine blk_drew ?_ | refine blk_alloc ?_ _)); refine blk_put (cs := #[.int .i64 0, .int .i64 x375001_1, .slice none 0 0]) ?_ 1 _ rfl; (with_reducible repeat (first | refine blk_drewN ?_ _ | refine blk_drew ?_ | refine blk_alloc ?_ _)); refine blk_put (cs := #[.int .i64 x375000_1, .int .i64 x375001_1, .slice none 0 0]) ?_ 0 _ rfl; (with_reducible repeat (first | refine blk_drewN ?_ _ | refine blk_drew ?_ | refine blk_alloc ?_ _)); exact BK374.out) Try.underlying24 rfl (by kernel_rfl)) rfl ?_
                  exact ⟨_, by first | rfl | (simp [errW_none, errW_some] <;> rfl) | (simp [*, errW_none, errW_some] <;> rfl), by first | exact Kd.R_nil _ _ _ _ _ | exact Kd.N_nil _ _ _ _ _ | exact Kd.V_nil _ _ _ _ _ | exact Kd.Q_nil _ _ _ _ _ | exact Kd.S_nil _ _ _ _ _, by repeat (first | (with_reducible first | exact HB.out | apply below_alloc | apply pw_below_drewN | apply below_drew1 | refine below_set ?_ GE374.out | refine below_set ?_ GE377.out) | exact HB.out)⟩
            · rw [if_neg c16] at H
              exact absurd H (by simp)
      · rw [if_neg c6] at H
        exact absurd H (by simp)
    · rw [if_neg c5] at H
      have c5b0 : ((a1.size : Int) == a0) = false := beq_eq_false_iff_ne.mpr c5
      have c5b1 : ((a1.size : Int) != a0) = true := bne_iff_ne.mpr c5
      simp only [Option.some.injEq, Prod.mk.injEq] at H
      obtain ⟨rfl, rfl, rfl, rfl⟩ := H
      go_enter Try.func22, Try.ntmps22
      go_wp2_with (first | ((with_reducible refine gate_dst (N := 4) rfl ?_); refine box_event ?hg (N := 4) ?hd (cs := #[.int .i64 0, .int .i64 0, .slice none 0 0]) (t := 24) ?hr ?_; (case hd => rfl); (case hg => rfl); (case hr => first | (go_simp; done) | (go_simp; rfl)); intro gb374 hg w78 hbox hb; have n0_ := Aside0.mk (below_step (by repeat (first | (with_reducible first | exact HB.out | apply below_alloc | apply pw_below_drewN | apply below_drew1) | exact HB.out)) hb); have n1_ := Aside0.mk (hbox); have n2_ := Aside0.mk ((by rw [hg]; exact (below_size (by repeat (first | (with_reducible first | exact HB.out | apply below_alloc | apply pw_below_drewN | apply below_drew1) | exact HB.out))) : w.heap.size ≤ gb374)); have n3_ := Aside0.mk ((by rw [hg]; exact (below_size (by repeat (first | (with_reducible first | exact HB.out | apply below_alloc | apply pw_below_drewN | apply below_drew1) | exact HB.out))) : w.heap.size ≤ gb374)); clear HB; have HB := n0_; have BK374 := n1_; have GW374 := n2_; have GE374 := n3_; clear n0_ n1_ n2_ n3_; clear hb hbox hg) | ((with_reducible refine gate_callee (f := 39) rfl ?_); refine goesL_ (some 15) rfl rfl Try.func39 (by kernel_rfl) rfl #[.int .i64 a0] rfl (by (try simp only [List.map_toArray, List.map_cons, List.map_nil]); first | done | rfl | (simp only [List.length_drop, List.length_take]; rfl)) ?_; (with_reducible refine (dasdref17_IsSize.calls a0 true _ A3.out).mono ?_); rintro e w' ⟨rfl, ⟨nd, rfl⟩⟩; refine ⟨_, rfl, ?_⟩; (try (rw [drewN_self w78]; generalize hq_ : World.drewN w78 _ = w78; have n0_ : Aside0 (w78.heap[gb374]? = some (.cells #[.int .i64 0, .int .i64 0, .slice none 0 0] 24 (0, 0))) := ⟨by rw [← hq_]; exact (by (with_reducible repeat (first | refine blk_drewN ?_ _ | refine blk_drew ?_ | refine blk_alloc ?_ _)); exact BK374.out)⟩; have n1_ : Aside0 (Below w.heap.size w w78) := ⟨by rw [← hq_]; exact (by repeat (first | (with_reducible first | exact HB.out | apply below_alloc | apply pw_below_drewN | apply below_drew1 | refine below_set ?_ GE374.out) | exact HB.out))⟩; clear BK374 HB hq_; have BK374 := n0_; have HB := n1_; clear n0_ n1_)); have hcz79_0 : w78.cell? ⟨gb374, 0, none⟩ = some (.int .i64 0) := (blk_cell BK374.out 0).trans rfl; have hcz79_1 : w78.cell? ⟨gb374, 1, none⟩ = some (.int .i64 0) := (blk_cell BK374.out 1).trans rfl; have hcz79_2 : w78.cell? ⟨gb374, 2, none⟩ = some (.slice none 0 0) := (blk_cell BK374.out 2).trans rfl; have hfz79_0 := blk_frozen BK374.out 0; have hfz79_1 := blk_frozen BK374.out 1; have hfz79_2 := blk_frozen BK374.out 2))
      refine bodyPost_ret (results_ct rfl _ _ gb374 24 #[.int .i64 0, .int .i64 0, .slice none 0 0] (0, 0) _ rfl (by (with_reducible repeat (first | refine blk_drewN ?_ _ | refine blk_drew ?_ | refine blk_alloc ?_ _)); refine blk_put (cs := #[.int .i64 0, .int .i64 0, .slice none 0 0]) ?_ 2 _ rfl; (with_reducible repeat (first | refine blk_drewN ?_ _ | refine blk_drew ?_ | refine blk_alloc ?_ _)); refine blk_put (cs := #[.int .i64 0, .int .i64 0, .slice none 0 0]) ?_ 1 _ rfl; (with_reducible repeat (first | refine blk_drewN ?_ _ | refine blk_drew ?_ | refine blk_alloc ?_ _)); refine blk_put (cs := #[.int .i64 0, .int .i64 0, .slice none 0 0]) ?_ 0 _ rfl; (with_reducible repeat (first | refine blk_drewN ?_ _ | refine blk_drew ?_ | refine blk_alloc ?_ _)); exact BK374.out) Try.underlying24 rfl (by kernel_rfl)) rfl ?_
      exact ⟨_, by first | rfl | (simp [errW_none, errW_some] <;> rfl) | (simp [*, errW_none, errW_some] <;> rfl), by first | exact Kd.R_nil _ _ _ _ _ | exact Kd.N_nil _ _ _ _ _ | exact Kd.V_nil _ _ _ _ _ | exact Kd.Q_nil _ _ _ _ _ | exact Kd.S_nil _ _ _ _ _, by repeat (first | (with_reducible first | exact HB.out | apply below_alloc | apply pw_below_drewN | apply below_drew1 | refine below_set ?_ GE374.out) | exact HB.out)⟩
  · replace c4 := Bool.eq_false_iff.mpr c4
    subst c4
    have H1 : (some (0, 0, ([] : List (S32)), 1)) = some (r1, r2, r3, r4) := by rw [if_neg (show ¬ (false = true) by decide)] at H; exact H
    clear H
    have H := H1
    clear H1
    simp only [Option.some.injEq, Prod.mk.injEq] at H
    obtain ⟨rfl, rfl, rfl, rfl⟩ := H
    go_enter Try.func22, Try.ntmps22
    go_wp2_with (first | ((with_reducible refine gate_dst (N := 4) rfl ?_); refine box_event ?hg (N := 4) ?hd (cs := #[.int .i64 0, .int .i64 0, .slice none 0 0]) (t := 24) ?hr ?_; (case hd => rfl); (case hg => rfl); (case hr => first | (go_simp; done) | (go_simp; rfl)); intro gb374 hg w80 hbox hb; have n0_ := Aside0.mk (below_step (by repeat (first | (with_reducible first | exact HB.out | apply below_alloc | apply pw_below_drewN | apply below_drew1) | exact HB.out)) hb); have n1_ := Aside0.mk (hbox); have n2_ := Aside0.mk ((by rw [hg]; exact (below_size (by repeat (first | (with_reducible first | exact HB.out | apply below_alloc | apply pw_below_drewN | apply below_drew1) | exact HB.out))) : w.heap.size ≤ gb374)); have n3_ := Aside0.mk ((by rw [hg]; exact (below_size (by repeat (first | (with_reducible first | exact HB.out | apply below_alloc | apply pw_below_drewN | apply below_drew1) | exact HB.out))) : w.heap.size ≤ gb374)); clear HB; have HB := n0_; have BK374 := n1_; have GW374 := n2_; have GE374 := n3_; clear n0_ n1_ n2_ n3_; clear hb hbox hg) | ((with_reducible refine gate_callee (f := 39) rfl ?_); refine goesL_ (some 15) rfl rfl Try.func39 (by kernel_rfl) rfl #[.int .i64 a0] rfl (by (try simp only [List.map_toArray, List.map_cons, List.map_nil]); first | done | rfl | (simp only [List.length_drop, List.length_take]; rfl)) ?_; (with_reducible refine (dasdref17_IsSize.calls a0 false _ A3.out).mono ?_); rintro e w' ⟨rfl, ⟨nd, rfl⟩⟩; refine ⟨_, rfl, ?_⟩; (try (rw [drewN_self w80]; generalize hq_ : World.drewN w80 _ = w80; have n0_ : Aside0 (w80.heap[gb374]? = some (.cells #[.int .i64 0, .int .i64 0, .slice none 0 0] 24 (0, 0))) := ⟨by rw [← hq_]; exact (by (with_reducible repeat (first | refine blk_drewN ?_ _ | refine blk_drew ?_ | refine blk_alloc ?_ _)); exact BK374.out)⟩; have n1_ : Aside0 (Below w.heap.size w w80) := ⟨by rw [← hq_]; exact (by repeat (first | (with_reducible first | exact HB.out | apply below_alloc | apply pw_below_drewN | apply below_drew1 | refine below_set ?_ GE374.out) | exact HB.out))⟩; clear BK374 HB hq_; have BK374 := n0_; have HB := n1_; clear n0_ n1_)); have hcz81_0 : w80.cell? ⟨gb374, 0, none⟩ = some (.int .i64 0) := (blk_cell BK374.out 0).trans rfl; have hcz81_1 : w80.cell? ⟨gb374, 1, none⟩ = some (.int .i64 0) := (blk_cell BK374.out 1).trans rfl; have hcz81_2 : w80.cell? ⟨gb374, 2, none⟩ = some (.slice none 0 0) := (blk_cell BK374.out 2).trans rfl; have hfz81_0 := blk_frozen BK374.out 0; have hfz81_1 := blk_frozen BK374.out 1; have hfz81_2 := blk_frozen BK374.out 2))
    refine bodyPost_ret (results_ct rfl _ _ gb374 24 #[.int .i64 0, .int .i64 0, .slice none 0 0] (0, 0) _ rfl (by (with_reducible repeat (first | refine blk_drewN ?_ _ | refine blk_drew ?_ | refine blk_alloc ?_ _)); refine blk_put (cs := #[.int .i64 0, .int .i64 0, .slice none 0 0]) ?_ 2 _ rfl; (with_reducible repeat (first | refine blk_drewN ?_ _ | refine blk_drew ?_ | refine blk_alloc ?_ _)); refine blk_put (cs := #[.int .i64 0, .int .i64 0, .slice none 0 0]) ?_ 1 _ rfl; (with_reducible repeat (first | refine blk_drewN ?_ _ | refine blk_drew ?_ | refine blk_alloc ?_ _)); refine blk_put (cs := #[.int .i64 0, .int .i64 0, .slice none 0 0]) ?_ 0 _ rfl; (with_reducible repeat (first | refine blk_drewN ?_ _ | refine blk_drew ?_ | refine blk_alloc ?_ _)); exact BK374.out) Try.underlying24 rfl (by kernel_rfl)) rfl ?_
    exact ⟨_, by first | rfl | (simp [errW_none, errW_some] <;> rfl) | (simp [*, errW_none, errW_some] <;> rfl), by first | exact Kd.R_nil _ _ _ _ _ | exact Kd.N_nil _ _ _ _ _ | exact Kd.V_nil _ _ _ _ _ | exact Kd.Q_nil _ _ _ _ _ | exact Kd.S_nil _ _ _ _ _, by repeat (first | (with_reducible first | exact HB.out | apply below_alloc | apply pw_below_drewN | apply below_drew1 | refine below_set ?_ GE374.out) | exact HB.out)⟩

end Go.Proofs.Ytffkgdaookidbaa.XNx
