/- Written by xprint.py, a program of this session: what functions of the program answer, each by a walk of its code; no condition beside those in the statements. -/
import Derived.Test.YtffkgdaookidbaaXNx0
import Derived.Test.YtffkgdaookidbaaXNx8
import Derived.Test.YtffkgdaookidbaaXNx9
import Derived.Test.YtffkgdaookidbaaXNx10
import Derived.Test.YtffkgdaookidbaaExtNumber
namespace Go.Proofs.Ytffkgdaookidbaa.XNx
open Go.RowKit Go.Proofs.YtffkgdaookidbaaW.PrintWords Go.Proofs.YtffkgdaookidbaaW.PrintLast Go.Proofs.YtffkgdaookidbaaW.PrintMore
attribute [local go_sem] max2_int min2_int max_two min_two max_three min_three max_four min_four   -- for this text's walks alone
open Go.Proofs.Ytffkgdaookidbaa.XW
set_option linter.unusedVariables false
set_option linter.unusedSimpArgs false

/-! ### node_Decode: function 21 -/
def node_Decode.l0 : Nat → Int → ByteArray → ByteArray → Int → Int → ByteArray → Int → Int → List (S32) → Option (Int × Int × (List (S32)) × Int)
  | 0, _, _, _, _, _, _, _, _, _ => none
  | k + 1, x0, x1, x9, x29, x30, x167000, x172000, x172001, x172002 => if x30 < x29 then ((node_reader_number.f x167000 1).bind fun bt176 => (if 0 ≤ (mn bt176.1 (x9.size : Int)) then (if (mn bt176.1 (x9.size : Int)) ≤ (x9.size : Int) then ((node_reader_number.f bt176.2 1).bind fun bt178 => ((node_reader_take.f bt178.2 bt178.1).bind fun bt180 => (if (x9.extract 0 ((mn bt176.1 (x9.size : Int)) : Int).toNat).size + bt180.1.size ≤ 9223372036854775807 then ((node_reader_number.f bt180.2 4).bind fun bt182 => (if x172002.length < 5864062014805 then (node_Decode.l0 k x0 x1 ((x9.extract 0 ((mn bt176.1 (x9.size : Int)) : Int).toNat) ++ bt180.1) x29 (wrap64 (x30 + 1)) bt182.2 x172000 x172001 (x172002 ++ [(⟨(x9.extract 0 ((mn bt176.1 (x9.size : Int)) : Int).toNat) ++ bt180.1, bt182.1⟩ : S32)])) else (none))) else (none)))) else (none)) else (none))) else ((node_Encode.f k x0 x172000 x172001 x172002).bind fun bt174 => (if bt174.2 = 0 then (if bt174.1.toList = x1.toList then (some (x172000, x172001, x172002, 0)) else (some (0, 0, ([] : List (S32)), 11))) else (some (0, 0, ([] : List (S32)), 11))))
def node_Decode.f (k : Nat) (a0 : Int) (a1 : ByteArray) : Option (Int × Int × (List (S32)) × Int) := (node_isSize.f a0).bind fun t165 => (if t165 = true then ((node_reader_number.f a1 1).bind fun bt167 => ((node_reader_number.f bt167.2 4).bind fun bt169 => ((node_reader_number.f bt169.2 1).bind fun bt172 => (node_Decode.l0 k a0 a1 (⟨#[]⟩ : ByteArray) bt172.1 0 bt172.2 bt167.1 bt169.1 ([] : List (S32)))))) else (some (0, 0, ([] : List (S32)), 1)))
theorem node_Decode.mono_l : ∀ k, (∀ y0 y1 y2 y3 y4 y5 y6 y7 y8, LeO (node_Decode.l0 k y0 y1 y2 y3 y4 y5 y6 y7 y8) (node_Decode.l0 (k + 1) y0 y1 y2 y3 y4 y5 y6 y7 y8))
  | 0 => fun _ _ _ _ _ _ _ _ _ r h => by simp [node_Decode.l0] at h
  | k + 1 => by
    have ih0 := node_Decode.mono_l k
    · intro y0 y1 y2 y3 y4 y5 y6 y7 y8
      unfold node_Decode.l0
      repeat' first
      | (with_reducible exact ih0 _ _ _ _ _ _ _ _ _)
      | (with_reducible exact node_Encode.mono _ _ _ _ _)
      | (with_reducible exact LeO.refl _)
      | (with_reducible exact LeO.none _)
      | (with_reducible refine LeO.ite ?_ ?_)
      | (with_reducible refine LeO.bind ?_ (fun _ => ?_))
      | exact ih0 _ _ _ _ _ _ _ _ _
      | exact node_Encode.mono _ _ _ _ _
      | exact LeO.none _
      | refine LeO.ite ?_ ?_
      | refine LeO.bind ?_ (fun _ => ?_)
theorem node_Decode.mono : ∀ a0 a1 k, LeO (node_Decode.f k a0 a1) (node_Decode.f (k + 1) a0 a1) := by
  intro a0 a1 k
  have ih0 := node_Decode.mono_l k
  unfold node_Decode.f
  repeat' first
      | (with_reducible exact ih0 _ _ _ _ _ _ _ _ _)
      | (with_reducible exact node_Encode.mono _ _ _ _ _)
      | (with_reducible exact LeO.refl _)
      | (with_reducible exact LeO.none _)
      | (with_reducible refine LeO.ite ?_ ?_)
      | (with_reducible refine LeO.bind ?_ (fun _ => ?_))
      | exact ih0 _ _ _ _ _ _ _ _ _
      | exact node_Encode.mono _ _ _ _ _
      | exact LeO.none _
      | refine LeO.ite ?_ ?_
      | refine LeO.bind ?_ (fun _ => ?_)
def node_Decode.T10 : Bool × List (List Nat × List Nat) := (true, [([], []), ([], []), ([0, 1], [0, 1]), ([], []), ([], []), ([4], [4]), ([3, 5, 5], [3, 5]), ([2, 6], [2, 6]), ([7, 6, 0, 1, 2, 3, 4, 5, 6, 7], [7])])
def node_Decode.B10 : List Nat := [0, 0, 3, 0, 0, 16, 56, 127, 255]
theorem node_Decode.tab10 : rtab .any (opsOf Try.f21 10) = node_Decode.T10 := by kernel_rfl
theorem node_Decode.bits10 : waitsOk node_Decode.T10.2 node_Decode.B10 = true := by kernel_rfl
def node_Decode.T11 : Bool × List (List Nat × List Nat) := (true, [([], []), ([0], [0]), ([], []), ([], []), ([3], [3]), ([2, 4], [2, 4]), ([5], [5]), ([1, 6, 4], [1, 6]), ([0, 1, 2, 3, 4, 5, 6, 7], []), ([8, 7, 7, 0, 1, 2, 3, 4, 5, 6, 7], [7, 8])])
def node_Decode.B11 : List Nat := [0, 1, 0, 0, 8, 28, 60, 127, 255, 511]
theorem node_Decode.tab11 : rtab .any (opsOf Try.f21 11) = node_Decode.T11 := by kernel_rfl
theorem node_Decode.bits11 : waitsOk node_Decode.T11.2 node_Decode.B11 = true := by kernel_rfl
set_option maxHeartbeats 8000000 in
set_option maxRecDepth 100000 in
theorem node_Decode.calls (k : Nat) (a0 : Int) (a1 : ByteArray) (r1 : Int) (r2 : Int) (r3 : List (S32)) (r4 : Int) (w : World) (h : node_Decode.f k a0 a1 = some (r1, r2, r3, r4)) :
    Calls Try.prog 21 #[.int .i64 a0, .string a1] w fun e w' => ∃ v2_ : Value, e = .returned (.tuple #[.agg #[.int .i64 r1, .int .i64 r2, v2_], .int .i64 r4]) ∧ Kd.R k32 32 w' w.heap.size (fun _ => True) v2_ r3 ∧ Below w.heap.size w w' := by
  have hu24 := Try.underlying24
  have hu54 := Try.underlying54
  have hu32 := Try.underlying32
  have HB := Aside0.mk (Below.refl w.heap.size w)
  have H : ((node_isSize.f a0).bind fun t165 => (if t165 = true then ((node_reader_number.f a1 1).bind fun bt167 => ((node_reader_number.f bt167.2 4).bind fun bt169 => ((node_reader_number.f bt169.2 1).bind fun bt172 => (node_Decode.l0 k a0 a1 (⟨#[]⟩ : ByteArray) bt172.1 0 bt172.2 bt167.1 bt169.1 ([] : List (S32)))))) else (some (0, 0, ([] : List (S32)), 1)))) = some (r1, r2, r3, r4) := h
  clear h
  replace H := Option.bind_eq_some_iff.mp H
  obtain ⟨t165, A30, H⟩ := H
  replace H : (if t165 = true then ((node_reader_number.f a1 1).bind fun bt167 => ((node_reader_number.f bt167.2 4).bind fun bt169 => ((node_reader_number.f bt169.2 1).bind fun bt172 => (node_Decode.l0 k a0 a1 (⟨#[]⟩ : ByteArray) bt172.1 0 bt172.2 bt167.1 bt169.1 ([] : List (S32)))))) else (some (0, 0, ([] : List (S32)), 1))) = some (r1, r2, r3, r4) := H
  have A3 := Aside0.mk A30
  clear A30
  by_cases c4 : t165 = true
  · subst c4
    have H1 : ((node_reader_number.f a1 1).bind fun bt167 => ((node_reader_number.f bt167.2 4).bind fun bt169 => ((node_reader_number.f bt169.2 1).bind fun bt172 => (node_Decode.l0 k a0 a1 (⟨#[]⟩ : ByteArray) bt172.1 0 bt172.2 bt167.1 bt169.1 ([] : List (S32)))))) = some (r1, r2, r3, r4) := by rw [if_pos rfl] at H; exact H
    clear H
    have H := H1
    clear H1
    replace H := Option.bind_eq_some_iff.mp H
    obtain ⟨⟨t167, t168⟩, A50, H⟩ := H
    replace H : ((node_reader_number.f t168 4).bind fun bt169 => ((node_reader_number.f bt169.2 1).bind fun bt172 => (node_Decode.l0 k a0 a1 (⟨#[]⟩ : ByteArray) bt172.1 0 bt172.2 t167 bt169.1 ([] : List (S32))))) = some (r1, r2, r3, r4) := H
    have A5 := Aside0.mk A50
    clear A50
    replace H := Option.bind_eq_some_iff.mp H
    obtain ⟨⟨t169, t170⟩, A60, H⟩ := H
    replace H : ((node_reader_number.f t170 1).bind fun bt172 => (node_Decode.l0 k a0 a1 (⟨#[]⟩ : ByteArray) bt172.1 0 bt172.2 t167 t169 ([] : List (S32)))) = some (r1, r2, r3, r4) := H
    have A6 := Aside0.mk A60
    clear A60
    replace H := Option.bind_eq_some_iff.mp H
    obtain ⟨⟨t172, t173⟩, A70, H⟩ := H
    replace H : (node_Decode.l0 k a0 a1 (⟨#[]⟩ : ByteArray) t172 0 t173 t167 t169 ([] : List (S32))) = some (r1, r2, r3, r4) := H
    have A7 := Aside0.mk A70
    clear A70
    have H' := Aside0.mk H
    clear H
    go_enter Try.func21, Try.ntmps21
    go_wp2_with (first | ((with_reducible refine gate_dst (N := 4) rfl ?_); refine box_event ?hg (N := 4) ?hd (cs := #[.int .i64 0, .int .i64 0, .slice none 0 0]) (t := 24) ?hr ?_; (case hd => rfl); (case hg => rfl); (case hr => first | (go_simp; done) | (go_simp; rfl)); intro gb164 hg w8 hbox hb; have n0_ := Aside0.mk (below_step (by repeat (first | (with_reducible first | exact HB.out | apply below_alloc | apply pw_below_drewN | apply below_drew1) | exact HB.out)) hb); have n1_ := Aside0.mk (hbox); have n2_ := Aside0.mk ((by rw [hg]; exact (below_size (by repeat (first | (with_reducible first | exact HB.out | apply below_alloc | apply pw_below_drewN | apply below_drew1) | exact HB.out))) : w.heap.size ≤ gb164)); have n3_ := Aside0.mk ((by rw [hg]; exact (below_size (by repeat (first | (with_reducible first | exact HB.out | apply below_alloc | apply pw_below_drewN | apply below_drew1) | exact HB.out))) : w.heap.size ≤ gb164)); clear HB; have HB := n0_; have BK164 := n1_; have GW164 := n2_; have GE164 := n3_; clear n0_ n1_ n2_ n3_; clear hb hbox hg) | ((with_reducible refine gate_callee (f := 36) rfl ?_); refine goesL_ (some 15) rfl rfl Try.func36 (by kernel_rfl) rfl #[.int .i64 a0] rfl (by (try simp only [List.map_toArray, List.map_cons, List.map_nil]); first | done | rfl | (simp only [List.length_drop, List.length_take]; rfl)) ?_; (with_reducible refine (node_isSize.calls a0 true _ A3.out).mono ?_); rintro e w' ⟨rfl, ⟨nd, rfl⟩⟩; refine ⟨_, rfl, ?_⟩; (try (rw [drewN_self w8]; generalize hq_ : World.drewN w8 _ = w8; have n0_ : Aside0 (w8.heap[gb164]? = some (.cells #[.int .i64 0, .int .i64 0, .slice none 0 0] 24 (0, 0))) := ⟨by rw [← hq_]; exact (by (with_reducible repeat (first | refine blk_drewN ?_ _ | refine blk_drew ?_ | refine blk_alloc ?_ _)); exact BK164.out)⟩; have n1_ : Aside0 (Below w.heap.size w w8) := ⟨by rw [← hq_]; exact (by repeat (first | (with_reducible first | exact HB.out | apply below_alloc | apply pw_below_drewN | apply below_drew1 | refine below_set ?_ GE164.out) | exact HB.out))⟩; clear BK164 HB hq_; have BK164 := n0_; have HB := n1_; clear n0_ n1_))) | ((with_reducible refine gate_dst (N := 20) rfl ?_); refine box_event ?hg (N := 20) ?hd (cs := #[.string a1]) (t := 54) ?hr ?_; (case hd => rfl); (case hg => rfl); (case hr => first | (go_simp; done) | (go_simp; rfl)); intro gb166 hg w9 hbox hb; have n0_ := Aside0.mk (blk_below (g := gb164) (o := .cells #[.int .i64 0, .int .i64 0, .slice none 0 0] 24 (0, 0)) (by (with_reducible repeat (first | refine blk_drewN ?_ _ | refine blk_drew ?_ | refine blk_alloc ?_ _)); exact BK164.out) hb); have n1_ := Aside0.mk (below_step (by repeat (first | (with_reducible first | exact HB.out | apply below_alloc | apply pw_below_drewN | apply below_drew1 | refine below_set ?_ GE164.out) | exact HB.out)) hb); have n2_ := Aside0.mk ((by rw [hg]; exact Nat.ne_of_lt (blk_lt (g := gb164) (o := .cells #[.int .i64 0, .int .i64 0, .slice none 0 0] 24 (0, 0)) (by (with_reducible repeat (first | refine blk_drewN ?_ _ | refine blk_drew ?_ | refine blk_alloc ?_ _)); exact BK164.out)) : gb164 ≠ gb166)); have n3_ := Aside0.mk ((by rw [hg]; exact Nat.ne_of_gt (blk_lt (g := gb164) (o := .cells #[.int .i64 0, .int .i64 0, .slice none 0 0] 24 (0, 0)) (by (with_reducible repeat (first | refine blk_drewN ?_ _ | refine blk_drew ?_ | refine blk_alloc ?_ _)); exact BK164.out)) : gb166 ≠ gb164)); have n4_ := Aside0.mk ((⟨hbox, by rw [hg]; exact (below_size (by repeat (first | (with_reducible first | exact HB.out | apply below_alloc | apply pw_below_drewN | apply below_drew1 | refine below_set ?_ GE164.out) | exact HB.out)))⟩ : IsS54 w w9 gb166 a1)); clear BK164; clear HB; have BK164 := n0_; have HB := n1_; have NB164_166 := n2_; have NB166_164 := n3_; have HI166 := n4_; clear n0_ n1_ n2_ n3_ n4_; clear hb hbox hg) | ((with_reducible refine gate_dst (N := 24) rfl ?_); refine goesB_ (some 24) rfl rfl Try.func37 (by kernel_rfl) rfl #[.pointer (some ⟨gb166, 0, none⟩), .int .i64 1] rfl rfl (by (try simp only [List.map_toArray, List.map_cons, List.map_nil]); first | done | rfl | (simp only [List.length_drop, List.length_take]; rfl)) ?_; (with_reducible refine (node_reader_number.calls gb166 a1 1 t167 t168 w _ ?side1 ?side2 A5.out).mono ?_); (case side1 => repeat (first | (with_reducible first | exact HI166.out | apply IsS54.alloc | apply IsS54.drewN | apply IsS54.drew | apply IsS54.set_0 | refine IsS54.far ?_ NB166_164.out _) | exact HI166.out)); (case side2 => repeat (first | (with_reducible first | exact HB.out | apply below_alloc | apply pw_below_drewN | apply below_drew1 | refine below_set ?_ (IsS54.ge HI166.out) | refine below_set ?_ GE164.out) | exact HB.out)); rintro e w10 ⟨rfl, hi, hb, hk⟩; refine ⟨_, rfl, ?_⟩; have n0_ := Aside0.mk (KeepBut.blk hk (g' := gb164) (o := .cells #[.int .i64 0, .int .i64 0, .slice none 0 0] 24 (0, 0)) (by (with_reducible repeat (first | refine blk_drewN ?_ _ | refine blk_drew ?_ | refine blk_alloc ?_ _)); exact BK164.out) NB164_166.out (by simp)); have n1_ := Aside0.mk (hb); have n2_ := Aside0.mk (hi); clear BK164; clear HB; clear HI166; have BK164 := n0_; have HB := n1_; have HI166 := n2_; clear n0_ n1_ n2_; (try clear hb); (try clear hb2); (try clear hk); (try clear hi)) | ((with_reducible refine gate_dst (N := 26) rfl ?_); refine goesB_ (some 26) rfl rfl Try.func37 (by kernel_rfl) rfl #[.pointer (some ⟨gb166, 0, none⟩), .int .i64 4] rfl rfl (by (try simp only [List.map_toArray, List.map_cons, List.map_nil]); first | done | rfl | (simp only [List.length_drop, List.length_take]; rfl)) ?_; (with_reducible refine (node_reader_number.calls gb166 t168 4 t169 t170 w _ ?side1 ?side2 A6.out).mono ?_); (case side1 => repeat (first | (with_reducible first | exact HI166.out | apply IsS54.alloc | apply IsS54.drewN | apply IsS54.drew | apply IsS54.set_0 | refine IsS54.far ?_ NB166_164.out _) | exact HI166.out)); (case side2 => repeat (first | (with_reducible first | exact HB.out | apply below_alloc | apply pw_below_drewN | apply below_drew1 | refine below_set ?_ (IsS54.ge HI166.out) | refine below_set ?_ GE164.out) | exact HB.out)); rintro e w11 ⟨rfl, hi, hb, hk⟩; refine ⟨_, rfl, ?_⟩; have n0_ := Aside0.mk (KeepBut.blk hk (g' := gb164) (o := .cells #[.int .i64 0, .int .i64 0, .slice none 0 0] 24 (0, 0)) (by (with_reducible repeat (first | refine blk_drewN ?_ _ | refine blk_drew ?_ | refine blk_alloc ?_ _)); exact BK164.out) NB164_166.out (by simp)); have n1_ := Aside0.mk (hb); have n2_ := Aside0.mk (hi); clear BK164; clear HB; clear HI166; have BK164 := n0_; have HB := n1_; have HI166 := n2_; clear n0_ n1_ n2_; (try clear hb); (try clear hb2); (try clear hk); (try clear hi)) | ((with_reducible refine gate_dst (N := 8) rfl ?_); refine box_event ?hg (N := 8) ?hd (cs := #[.int .i64 0, .int .i64 0, .slice none 0 0]) (t := 24) ?hr ?_; (case hd => rfl); (case hg => rfl); (case hr => first | (go_simp; done) | (go_simp; rfl)); intro gb171 hg w12 hbox hb; have n0_ := Aside0.mk (blk_below (g := gb164) (o := .cells #[.int .i64 0, .int .i64 0, .slice none 0 0] 24 (0, 0)) (by (with_reducible repeat (first | refine blk_drewN ?_ _ | refine blk_drew ?_ | refine blk_alloc ?_ _)); exact BK164.out) hb); have n1_ := Aside0.mk (IsS54.below (by repeat (first | (with_reducible first | exact HI166.out | apply IsS54.alloc | apply IsS54.drewN | apply IsS54.drew | apply IsS54.set_0 | refine IsS54.far ?_ NB166_164.out _) | exact HI166.out)) hb); have n2_ := Aside0.mk (below_step (by repeat (first | (with_reducible first | exact HB.out | apply below_alloc | apply pw_below_drewN | apply below_drew1 | refine below_set ?_ (IsS54.ge HI166.out) | refine below_set ?_ GE164.out) | exact HB.out)) hb); have n3_ := Aside0.mk (hbox); have n4_ := Aside0.mk ((by rw [hg]; exact (below_size (by repeat (first | (with_reducible first | exact HB.out | apply below_alloc | apply pw_below_drewN | apply below_drew1 | refine below_set ?_ (IsS54.ge HI166.out) | refine below_set ?_ GE164.out) | exact HB.out))) : w.heap.size ≤ gb171)); have n5_ := Aside0.mk ((by rw [hg]; exact (below_size (by repeat (first | (with_reducible first | exact HB.out | apply below_alloc | apply pw_below_drewN | apply below_drew1 | refine below_set ?_ (IsS54.ge HI166.out) | refine below_set ?_ GE164.out) | exact HB.out))) : w.heap.size ≤ gb171)); have n6_ := Aside0.mk ((by rw [hg]; exact Nat.ne_of_lt (blk_lt (g := gb164) (o := .cells #[.int .i64 0, .int .i64 0, .slice none 0 0] 24 (0, 0)) (by (with_reducible repeat (first | refine blk_drewN ?_ _ | refine blk_drew ?_ | refine blk_alloc ?_ _)); exact BK164.out)) : gb164 ≠ gb171)); have n7_ := Aside0.mk ((by rw [hg]; exact Nat.ne_of_gt (blk_lt (g := gb164) (o := .cells #[.int .i64 0, .int .i64 0, .slice none 0 0] 24 (0, 0)) (by (with_reducible repeat (first | refine blk_drewN ?_ _ | refine blk_drew ?_ | refine blk_alloc ?_ _)); exact BK164.out)) : gb171 ≠ gb164)); have n8_ := Aside0.mk ((by rw [hg]; exact Nat.ne_of_lt (IsS54.lt (show IsS54 w _ gb166 t170 from by repeat (first | (with_reducible first | exact HI166.out | apply IsS54.alloc | apply IsS54.drewN | apply IsS54.drew | apply IsS54.set_0 | refine IsS54.far ?_ NB166_164.out _) | exact HI166.out))) : gb166 ≠ gb171)); have n9_ := Aside0.mk ((by rw [hg]; exact Nat.ne_of_gt (IsS54.lt (show IsS54 w _ gb166 t170 from by repeat (first | (with_reducible first | exact HI166.out | apply IsS54.alloc | apply IsS54.drewN | apply IsS54.drew | apply IsS54.set_0 | refine IsS54.far ?_ NB166_164.out _) | exact HI166.out))) : gb171 ≠ gb166)); clear BK164; clear HI166; clear HB; have BK164 := n0_; have HI166 := n1_; have HB := n2_; have BK171 := n3_; have GW171 := n4_; have GE171 := n5_; have NB164_171 := n6_; have NB171_164 := n7_; have NB166_171 := n8_; have NB171_166 := n9_; clear n0_ n1_ n2_ n3_ n4_ n5_ n6_ n7_ n8_ n9_; clear hb hbox hg; have hnb13 := NB171_164.out; have hnc13 := NB164_171.out; have hnb14 := NB171_166.out; have hnc14 := NB166_171.out; have hcz15_0 : w12.cell? ⟨gb171, 0, none⟩ = some (.int .i64 0) := (blk_cell BK171.out 0).trans rfl; have hcz15_1 : w12.cell? ⟨gb171, 1, none⟩ = some (.int .i64 0) := (blk_cell BK171.out 1).trans rfl; have hcz15_2 : w12.cell? ⟨gb171, 2, none⟩ = some (.slice none 0 0) := (blk_cell BK171.out 2).trans rfl; have hfz15_0 := blk_frozen BK171.out 0; have hfz15_1 := blk_frozen BK171.out 1; have hfz15_2 := blk_frozen BK171.out 2) | ((with_reducible refine gate_dst (N := 29) rfl ?_); refine goesB_ (some 29) rfl rfl Try.func37 (by kernel_rfl) rfl #[.pointer (some ⟨gb166, 0, none⟩), .int .i64 1] rfl rfl (by (try simp only [List.map_toArray, List.map_cons, List.map_nil]); first | done | rfl | (simp only [List.length_drop, List.length_take]; rfl)) ?_; (with_reducible refine (node_reader_number.calls gb166 t170 1 t172 t173 w _ ?side1 ?side2 A7.out).mono ?_); (case side1 => repeat (first | (with_reducible first | exact HI166.out | apply IsS54.alloc | apply IsS54.drewN | apply IsS54.drew | apply IsS54.set_0 | refine IsS54.far ?_ NB166_164.out _ | refine IsS54.far ?_ NB166_171.out _) | exact HI166.out)); (case side2 => repeat (first | (with_reducible first | exact HB.out | apply below_alloc | apply pw_below_drewN | apply below_drew1 | refine below_set ?_ (IsS54.ge HI166.out) | refine below_set ?_ GE164.out | refine below_set ?_ GE171.out) | exact HB.out)); rintro e w16 ⟨rfl, hi, hb, hk⟩; refine ⟨_, rfl, ?_⟩; have n0_ := Aside0.mk (KeepBut.blk hk (g' := gb164) (o := .cells #[.int .i64 0, .int .i64 0, .slice none 0 0] 24 (0, 0)) (by (with_reducible repeat (first | refine blk_drewN ?_ _ | refine blk_drew ?_ | refine blk_alloc ?_ _)); refine blk_far ?_ NB164_171.out _; (with_reducible repeat (first | refine blk_drewN ?_ _ | refine blk_drew ?_ | refine blk_alloc ?_ _)); refine blk_far ?_ NB164_171.out _; (with_reducible repeat (first | refine blk_drewN ?_ _ | refine blk_drew ?_ | refine blk_alloc ?_ _)); refine blk_far ?_ NB164_171.out _; (with_reducible repeat (first | refine blk_drewN ?_ _ | refine blk_drew ?_ | refine blk_alloc ?_ _)); exact BK164.out) NB164_166.out (by simp)); have n1_ := Aside0.mk (KeepBut.blk hk (g' := gb171) (o := .cells #[.int .i64 t167, .int .i64 t169, .slice none 0 0] 24 (0, 0)) (by (with_reducible repeat (first | refine blk_drewN ?_ _ | refine blk_drew ?_ | refine blk_alloc ?_ _)); refine blk_put (cs := #[.int .i64 t167, .int .i64 t169, .slice none 0 0]) ?_ 2 _ rfl; (with_reducible repeat (first | refine blk_drewN ?_ _ | refine blk_drew ?_ | refine blk_alloc ?_ _)); refine blk_put (cs := #[.int .i64 t167, .int .i64 0, .slice none 0 0]) ?_ 1 _ rfl; (with_reducible repeat (first | refine blk_drewN ?_ _ | refine blk_drew ?_ | refine blk_alloc ?_ _)); refine blk_put (cs := #[.int .i64 0, .int .i64 0, .slice none 0 0]) ?_ 0 _ rfl; (with_reducible repeat (first | refine blk_drewN ?_ _ | refine blk_drew ?_ | refine blk_alloc ?_ _)); exact BK171.out) NB171_166.out (by simp)); have n2_ := Aside0.mk (hb); have n3_ := Aside0.mk (hi); clear BK164; clear BK171; clear HB; clear HI166; have BK164 := n0_; have BK171 := n1_; have HB := n2_; have HI166 := n3_; clear n0_ n1_ n2_ n3_; (try clear hb); (try clear hb2); (try clear hk); (try clear hi)))
    go_loopg [9, 30] k (fun kq v9 v30 w' => ∃ (x9_1 : ByteArray) (x30_1 : Int) (x167000_1 : ByteArray) (x172002_1 : List (S32)) (u172002 : Value), v9 = .string x9_1 ∧ v30 = .int .i64 x30_1 ∧ Aside0 (node_Decode.l0 kq a0 a1 x9_1 t172 x30_1 x167000_1 t167 t169 x172002_1 = some (r1, r2, r3, r4)) ∧ Aside0 (kq ≤ k) ∧ Aside0 (Kd.R k32 32 w' w.heap.size (fun _ => True) u172002 x172002_1) ∧ Aside0 (w'.heap[gb164]? = some (.cells #[.int .i64 0, .int .i64 0, (.slice none 0 0)] 24 (0, 0))) ∧ Aside0 (w'.heap[gb171]? = some (.cells #[.int .i64 t167, .int .i64 t169, u172002] 24 (0, 0))) ∧ Aside0 (IsS54 w w' gb166 x167000_1) ∧ Aside0 (Below w.heap.size w w'))
    case atStart => exact ⟨((⟨#[]⟩ : ByteArray)), (0), (t173), (([] : List (S32))), (.slice none 0 0), (by first | rfl | (simp; done) | (simp [*]; done)), (by first | rfl | (simp; done) | (simp [*]; done)), H', ⟨Nat.le_refl _⟩, ⟨by first | exact Kd.R_nil _ _ _ _ _ | exact Kd.N_nil _ _ _ _ _ | exact Kd.V_nil _ _ _ _ _ | exact Kd.Q_nil _ _ _ _ _ | exact Kd.S_nil _ _ _ _ _⟩, ⟨by (with_reducible repeat (first | refine blk_drewN ?_ _ | refine blk_drew ?_ | refine blk_alloc ?_ _)); exact BK164.out⟩, ⟨by (with_reducible repeat (first | refine blk_drewN ?_ _ | refine blk_drew ?_ | refine blk_alloc ?_ _)); exact BK171.out⟩, ⟨by repeat (first | (with_reducible first | exact HI166.out | apply IsS54.alloc | apply IsS54.drewN | apply IsS54.drew | apply IsS54.set_0 | refine IsS54.far ?_ NB166_164.out _ | refine IsS54.far ?_ NB166_171.out _) | exact HI166.out)⟩, ⟨by repeat (first | (with_reducible first | exact HB.out | apply below_alloc | apply pw_below_drewN | apply below_drew1 | refine below_set ?_ (IsS54.ge HI166.out) | refine below_set ?_ GE164.out | refine below_set ?_ GE171.out) | exact HB.out)⟩⟩
    case round =>
      clear H'
      try clear c1
      try clear c2
      try clear p2
      try clear c3
      try clear c4
      try clear c13
      try clear c14
      try clear hcz15_0
      try clear hcz15_1
      try clear hcz15_2
      try clear hfz15_0
      try clear hfz15_1
      try clear hfz15_2
      obtain ⟨x9_1, x30_1, x167000_1, x172002_1, u172002, rfl, rfl, HA, HK1, HO_172002, BK164, BK171, HI166, HB⟩ := hrel
      cases gk with
      | zero => exact absurd HA.out (by simp [node_Decode.l0])
      | succ k1 =>
        have H := HA.out
        clear HA
        simp only [node_Decode.l0] at H
        by_cases c17 : x30_1 < t172
        · rw [if_pos c17] at H
          have c17b0 : decide (x30_1 < t172) = true := decide_eq_true c17
          clear c17
          replace H := Option.bind_eq_some_iff.mp H
          obtain ⟨⟨t176, t177⟩, A180, H⟩ := H
          replace H : (if 0 ≤ (mn t176 (x9_1.size : Int)) then (if (mn t176 (x9_1.size : Int)) ≤ (x9_1.size : Int) then ((node_reader_number.f t177 1).bind fun bt178 => ((node_reader_take.f bt178.2 bt178.1).bind fun bt180 => (if (x9_1.extract 0 ((mn t176 (x9_1.size : Int)) : Int).toNat).size + bt180.1.size ≤ 9223372036854775807 then ((node_reader_number.f bt180.2 4).bind fun bt182 => (if x172002_1.length < 5864062014805 then (node_Decode.l0 k1 a0 a1 ((x9_1.extract 0 ((mn t176 (x9_1.size : Int)) : Int).toNat) ++ bt180.1) t172 (wrap64 (x30_1 + 1)) bt182.2 t167 t169 (x172002_1 ++ [(⟨(x9_1.extract 0 ((mn t176 (x9_1.size : Int)) : Int).toNat) ++ bt180.1, bt182.1⟩ : S32)])) else (none))) else (none)))) else (none)) else (none)) = some (r1, r2, r3, r4) := H
          have A18 := Aside0.mk A180
          clear A180
          obtain ⟨ji19, hji19⟩ : ∃ j_ : Int, (mn t176 (x9_1.size : Int)) = j_ := ⟨_, rfl⟩
          replace H : (if 0 ≤ (ji19) then (if (ji19) ≤ (x9_1.size : Int) then ((node_reader_number.f t177 1).bind fun bt178 => ((node_reader_take.f bt178.2 bt178.1).bind fun bt180 => (if (x9_1.extract 0 ((ji19) : Int).toNat).size + bt180.1.size ≤ 9223372036854775807 then ((node_reader_number.f bt180.2 4).bind fun bt182 => (if x172002_1.length < 5864062014805 then (node_Decode.l0 k1 a0 a1 ((x9_1.extract 0 ((ji19) : Int).toNat) ++ bt180.1) t172 (wrap64 (x30_1 + 1)) bt182.2 t167 t169 (x172002_1 ++ [(⟨(x9_1.extract 0 ((ji19) : Int).toNat) ++ bt180.1, bt182.1⟩ : S32)])) else (none))) else (none)))) else (none)) else (none)) = some (r1, r2, r3, r4) := by first | (rw [hji19] at H; exact H) | (simp only [hji19] at H ⊢; exact H)
          (try rw [hji19] at A18)
          have hji19_ : (if (x9_1.size : Int) < t176 then (x9_1.size : Int) else t176) = ji19 := hji19
          by_cases c20 : 0 ≤ (ji19)
          · rw [if_pos c20] at H
            have c20b0 := eq_true c20
            have c20b1 : decide (0 ≤ (ji19)) = true := decide_eq_true c20
            clear c20
            by_cases c21 : (ji19) ≤ (x9_1.size : Int)
            · rw [if_pos c21] at H
              have c21b0 := eq_true c21
              have c21b1 : decide ((ji19) ≤ (x9_1.size : Int)) = true := decide_eq_true c21
              clear c21
              replace H := Option.bind_eq_some_iff.mp H
              obtain ⟨⟨t178, t179⟩, A220, H⟩ := H
              replace H : ((node_reader_take.f t179 t178).bind fun bt180 => (if (x9_1.extract 0 ((ji19) : Int).toNat).size + bt180.1.size ≤ 9223372036854775807 then ((node_reader_number.f bt180.2 4).bind fun bt182 => (if x172002_1.length < 5864062014805 then (node_Decode.l0 k1 a0 a1 ((x9_1.extract 0 ((ji19) : Int).toNat) ++ bt180.1) t172 (wrap64 (x30_1 + 1)) bt182.2 t167 t169 (x172002_1 ++ [(⟨(x9_1.extract 0 ((ji19) : Int).toNat) ++ bt180.1, bt182.1⟩ : S32)])) else (none))) else (none))) = some (r1, r2, r3, r4) := H
              have A22 := Aside0.mk A220
              clear A220
              replace H := Option.bind_eq_some_iff.mp H
              obtain ⟨⟨t180, t181⟩, A230, H⟩ := H
              replace H : (if (x9_1.extract 0 ((ji19) : Int).toNat).size + t180.size ≤ 9223372036854775807 then ((node_reader_number.f t181 4).bind fun bt182 => (if x172002_1.length < 5864062014805 then (node_Decode.l0 k1 a0 a1 ((x9_1.extract 0 ((ji19) : Int).toNat) ++ t180) t172 (wrap64 (x30_1 + 1)) bt182.2 t167 t169 (x172002_1 ++ [(⟨(x9_1.extract 0 ((ji19) : Int).toNat) ++ t180, bt182.1⟩ : S32)])) else (none))) else (none)) = some (r1, r2, r3, r4) := H
              have A23 := Aside0.mk A230
              clear A230
              by_cases c24 : (x9_1.extract 0 ((ji19) : Int).toNat).size + t180.size ≤ 9223372036854775807
              · rw [if_pos c24] at H
                have c24b0 := eq_true c24
                have c24b1 : decide ((x9_1.extract 0 ((ji19) : Int).toNat).size + t180.size ≤ 9223372036854775807) = true := decide_eq_true c24
                try have c24b2 : (9223372036854775807 < (x9_1.extract 0 ((ji19) : Int).toNat).size + t180.size) = False := eq_false (Nat.not_lt.2 c24)
                try have c24b5 : (9223372036854775807 < ji19.toNat + t180.size) = False := eq_false (by have h1_ := c24; have h2_ : ji19 ≤ (x9_1.size : Int) := of_decide_eq_true (by assumption); rw [ByteArray.size_extract] at h1_; omega)
                replace H := Option.bind_eq_some_iff.mp H
                obtain ⟨⟨t182, t183⟩, A250, H⟩ := H
                replace H : (if x172002_1.length < 5864062014805 then (node_Decode.l0 k1 a0 a1 ((x9_1.extract 0 ((ji19) : Int).toNat) ++ t180) t172 (wrap64 (x30_1 + 1)) t183 t167 t169 (x172002_1 ++ [(⟨(x9_1.extract 0 ((ji19) : Int).toNat) ++ t180, t182⟩ : S32)])) else (none)) = some (r1, r2, r3, r4) := H
                have A25 := Aside0.mk A250
                clear A250
                by_cases c26 : x172002_1.length < 5864062014805
                · rw [if_pos c26] at H
                  have LMc26 := Aside0.mk c26
                  clear c26
                  obtain ⟨y184, hy184⟩ : ∃ y_ : List (S32), y_ = (x172002_1 ++ [(⟨(x9_1.extract 0 ((ji19) : Int).toNat) ++ t180, t182⟩ : S32)]) := ⟨_, rfl⟩
                  replace H : (node_Decode.l0 k1 a0 a1 ((x9_1.extract 0 ((ji19) : Int).toNat) ++ t180) t172 (wrap64 (x30_1 + 1)) t183 t167 t169 y184) = some (r1, r2, r3, r4) := by first | (rw [hy184]; with_reducible exact H) | (have H2_ := (Option.bind_some _ _).symm.trans H; rw [hy184]; with_reducible exact H2_) | (have H2_ := (Option.bind_some _ _).symm.trans H; with_reducible exact H2_) | with_reducible exact H | (rw [hy184]; exact H) | exact H
                  have Ny184 := Aside0.mk hy184
                  clear hy184
                  have H' := Aside0.mk H
                  clear H
                  try go_wp2_with (first | ((with_reducible refine gate_dst (N := 33) rfl ?_); refine goesB_ (some 33) rfl rfl Try.func37 (by kernel_rfl) rfl #[.pointer (some ⟨gb166, 0, none⟩), .int .i64 1] rfl rfl (by (try simp only [List.map_toArray, List.map_cons, List.map_nil]); first | done | rfl | (simp only [List.length_drop, List.length_take]; rfl)) ?_; (with_reducible refine (node_reader_number.calls gb166 x167000_1 1 t176 t177 w _ ?side1 ?side2 A18.out).mono ?_); (case side1 => repeat (first | (with_reducible first | exact HI166.out | apply IsS54.alloc | apply IsS54.drewN | apply IsS54.drew | apply IsS54.set_0 | refine IsS54.far ?_ NB166_164.out _ | refine IsS54.far ?_ NB166_171.out _) | exact HI166.out)); (case side2 => repeat (first | (with_reducible first | exact HB.out | apply below_alloc | apply pw_below_drewN | apply below_drew1 | refine below_set ?_ (IsS54.ge HI166.out) | refine below_set ?_ GE164.out | refine below_set ?_ GE171.out) | exact HB.out)); rintro e w27 ⟨rfl, hi, hb, hk⟩; refine ⟨_, rfl, ?_⟩; have n0_ := Aside0.mk (Kd.R_mono (Kd.R_keep (IsS54.apart (show IsS54 w _ gb166 x167000_1 from by repeat (first | (with_reducible first | exact HI166.out | apply IsS54.alloc | apply IsS54.drewN | apply IsS54.drew | apply IsS54.set_0 | refine IsS54.far ?_ NB166_164.out _ | refine IsS54.far ?_ NB166_171.out _) | exact HI166.out)) (by (with_reducible repeat (first | apply Kd.R_alloc | apply Kd.R_drewN | apply Kd.R_drew)); exact HO_172002.out) (by decide)) hk (fun _ h => h.2)) (fun _ h => h.1)); have n1_ := Aside0.mk (KeepBut.blk hk (g' := gb164) (o := .cells #[.int .i64 0, .int .i64 0, .slice none 0 0] 24 (0, 0)) (by (with_reducible repeat (first | refine blk_drewN ?_ _ | refine blk_drew ?_ | refine blk_alloc ?_ _)); exact BK164.out) NB164_166.out (by simp)); have n2_ := Aside0.mk (KeepBut.blk hk (g' := gb171) (o := .cells #[.int .i64 t167, .int .i64 t169, u172002] 24 (0, 0)) (by (with_reducible repeat (first | refine blk_drewN ?_ _ | refine blk_drew ?_ | refine blk_alloc ?_ _)); exact BK171.out) NB171_166.out (by simp)); have n3_ := Aside0.mk (hb); have n4_ := Aside0.mk (hi); clear HO_172002; clear BK164; clear BK171; clear HB; clear HI166; have HO_172002 := n0_; have BK164 := n1_; have BK171 := n2_; have HB := n3_; have HI166 := n4_; clear n0_ n1_ n2_ n3_ n4_; (try clear hb); (try clear hb2); (try clear hk); (try clear hi)))
                  have n0_ := Aside0.mk (Kd.R_drew HO_172002.out)
                  have n1_ := Aside0.mk (blk_drew BK164.out)
                  have n2_ := Aside0.mk (blk_drew BK171.out)
                  have n3_ := Aside0.mk (IsS54.drew HI166.out)
                  have n4_ := Aside0.mk (below_drew1 HB.out)
                  clear HO_172002
                  clear BK164
                  clear BK171
                  clear HI166
                  clear HB
                  have HO_172002 := n0_
                  have BK164 := n1_
                  have BK171 := n2_
                  have HI166 := n3_
                  have HB := n4_
                  clear n0_ n1_ n2_ n3_ n4_
                  refine start_ (n := 9) (S := fun w' => True) (ds := []) #[false, false, false, false, false, false, false, false, false] (by kernel_rfl) rfl rfl trivial (fun hHeld => ?_); refine with_tabW node_Decode.tab10 node_Decode.bits10 (fun HT_ HW_ => ?_)
                  generalize w27.drew = w28 at HO_172002 BK164 BK171 HI166 HB hHeld ⊢
                  refine pure_ (i := 0) (N := some 37) (v := ?_) (a' := ?_) #[true, false, false, false, false, false, false, false, false] rfl rfl (any_of HT_.out (by kernel_rfl)) (fun _ _ _ h => h) (Or.inl ⟨by rfl, ?_⟩) ?_ ?_
                  rotate_left
                  · intro w'
                    go_simp
                    with_reducible rfl
                  rotate_left
                  · simp only [Act.put, List.setIfInBounds_toArray, List.set_cons_zero, List.set_cons_succ, i64_w, i32_w]
                    rfl
                  refine pure_ (i := 1) (N := some 38) (v := ?_) (a' := ?_) #[true, true, false, false, false, false, false, false, false] rfl rfl (any_of HT_.out (by kernel_rfl)) (fun _ _ _ h => h) (Or.inl ⟨by rfl, ?_⟩) ?_ ?_
                  rotate_left
                  · intro w'
                    go_simp
                    with_reducible rfl
                  rotate_left
                  · simp only [Act.put, List.setIfInBounds_toArray, List.set_cons_zero, List.set_cons_succ, i64_w, i32_w]
                    rfl
                  refine pure_ (i := 2) (N := some 39) (v := ?_) (a' := ?_) #[true, true, true, false, false, false, false, false, false] rfl rfl (any_of HT_.out (by kernel_rfl)) (fun _ _ _ h => h) (Or.inl ⟨by rfl, ?_⟩) ?_ ?_
                  rotate_left
                  · intro w'
                    go_simp
                    with_reducible rfl
                  rotate_left
                  · simp only [Act.put, List.setIfInBounds_toArray, List.set_cons_zero, List.set_cons_succ, i64_w, i32_w]
                    rfl
                  refine pure_ (i := 3) (N := some 40) (v := ?_) (a' := ?_) #[true, true, true, true, false, false, false, false, false] rfl rfl (any_of HT_.out (by kernel_rfl)) (fun _ _ _ h => h) (Or.inl ⟨by rfl, ?_⟩) ?_ ?_
                  rotate_left
                  · intro w'
                    go_simp
                    with_reducible rfl
                  rotate_left
                  · simp only [Act.put, List.setIfInBounds_toArray, List.set_cons_zero, List.set_cons_succ, i64_w, i32_w]
                    rfl
                  refine pure_ (i := 4) (N := some 41) (v := ?_) (a' := ?_) #[true, true, true, true, true, false, false, false, false] rfl rfl (any_of HT_.out (by kernel_rfl)) (fun _ _ _ h => h) (Or.inl ⟨by rfl, ?_⟩) ?_ ?_
                  rotate_left
                  · intro w'
                    go_simp
                    with_reducible rfl
                  rotate_left
                  · simp only [Act.put, List.setIfInBounds_toArray, List.set_cons_zero, List.set_cons_succ, i64_w, i32_w]
                    rfl
                  refine one_ (i := 5) (N := some 42) #[true, true, true, true, true, true, false, false, false] rfl rfl (one_of HT_.out (by kernel_rfl)) (by decide) (fun K hK => ?_)
                  refine goesBr_ Try.func37 (by kernel_rfl) rfl #[.pointer (some ⟨gb166, 0, none⟩), .int .i64 1] (by rfl) rfl rfl (by rfl) (by (try simp only [List.map_toArray, List.map_cons, List.map_nil]); first | done | rfl | (simp only [List.length_drop, List.length_take]; rfl)) ?_
                  with_reducible refine (node_reader_number.calls gb166 t177 1 t178 t179 w _ ?side1 ?side2 A22.out).mono ?_
                  (case side1 => repeat (first | (with_reducible first | exact HI166.out | apply IsS54.alloc | apply IsS54.drewN | apply IsS54.drew | apply IsS54.set_0 | refine IsS54.far ?_ NB166_164.out _ | refine IsS54.far ?_ NB166_171.out _) | exact HI166.out))
                  (case side2 => repeat (first | (with_reducible first | exact HB.out | apply below_alloc | apply pw_below_drewN | apply below_drew1 | refine below_set ?_ (IsS54.ge HI166.out) | refine below_set ?_ GE164.out | refine below_set ?_ GE171.out) | exact HB.out))
                  rintro e w29 ⟨rfl, hi, hb, hk⟩
                  refine ⟨_, rfl, ?_⟩
                  have n0_ := Aside0.mk (Kd.R_mono (Kd.R_keep (IsS54.apart (show IsS54 w _ gb166 t177 from by repeat (first | (with_reducible first | exact HI166.out | apply IsS54.alloc | apply IsS54.drewN | apply IsS54.drew | apply IsS54.set_0 | refine IsS54.far ?_ NB166_164.out _ | refine IsS54.far ?_ NB166_171.out _) | exact HI166.out)) (by (with_reducible repeat (first | apply Kd.R_alloc | apply Kd.R_drewN | apply Kd.R_drew)); exact HO_172002.out) (by decide)) hk (fun _ h => h.2)) (fun _ h => h.1))
                  have n1_ := Aside0.mk (KeepBut.blk hk (g' := gb164) (o := .cells #[.int .i64 0, .int .i64 0, .slice none 0 0] 24 (0, 0)) (by (with_reducible repeat (first | refine blk_drewN ?_ _ | refine blk_drew ?_ | refine blk_alloc ?_ _)); exact BK164.out) NB164_166.out (by simp))
                  have n2_ := Aside0.mk (KeepBut.blk hk (g' := gb171) (o := .cells #[.int .i64 t167, .int .i64 t169, u172002] 24 (0, 0)) (by (with_reducible repeat (first | refine blk_drewN ?_ _ | refine blk_drew ?_ | refine blk_alloc ?_ _)); exact BK171.out) NB171_166.out (by simp))
                  have n3_ := Aside0.mk (hb)
                  have n4_ := Aside0.mk (hi)
                  clear HO_172002
                  clear BK164
                  clear BK171
                  clear HB
                  clear HI166
                  have HO_172002 := n0_
                  have BK164 := n1_
                  have BK171 := n2_
                  have HB := n3_
                  have HI166 := n4_
                  clear n0_ n1_ n2_ n3_ n4_
                  (try clear hb)
                  (try clear hb2)
                  (try clear hk)
                  (try clear hi)
                  refine hK.out _ _ trivial (fun hHeld => ?_)
                  clear hK K
                  refine norm_ (a' := ?_) ?_ ?_
                  rotate_left
                  · show Act.put _ (some 42) _ = _
                    simp only [Act.put, List.setIfInBounds_toArray, List.set_cons_zero, List.set_cons_succ, i64_w, i32_w]
                    rfl
                  refine one_ (i := 6) (N := some 43) #[true, true, true, true, true, true, true, false, false] rfl rfl (one_of HT_.out (by kernel_rfl)) (by decide) (fun K hK => ?_)
                  refine goes_ Try.func38 (by kernel_rfl) rfl #[.pointer (some ⟨gb166, 0, none⟩), .int .i64 t178] (by rfl) rfl rfl (by (try simp only [List.map_toArray, List.map_cons, List.map_nil]); first | done | rfl | (simp only [List.length_drop, List.length_take]; rfl)) ?_
                  with_reducible refine (node_reader_take.calls gb166 t179 t178 t180 t181 w _ ?side1 ?side2 A23.out).mono ?_
                  (case side1 => repeat (first | (with_reducible first | exact HI166.out | apply IsS54.alloc | apply IsS54.drewN | apply IsS54.drew | apply IsS54.set_0 | refine IsS54.far ?_ NB166_164.out _ | refine IsS54.far ?_ NB166_171.out _) | exact HI166.out))
                  (case side2 => repeat (first | (with_reducible first | exact HB.out | apply below_alloc | apply pw_below_drewN | apply below_drew1 | refine below_set ?_ (IsS54.ge HI166.out) | refine below_set ?_ GE164.out | refine below_set ?_ GE171.out) | exact HB.out))
                  rintro e w30 ⟨rfl, hi, hb, hk⟩
                  refine ⟨_, rfl, ?_⟩
                  have n0_ := Aside0.mk (Kd.R_mono (Kd.R_keep (IsS54.apart (show IsS54 w _ gb166 t179 from by repeat (first | (with_reducible first | exact HI166.out | apply IsS54.alloc | apply IsS54.drewN | apply IsS54.drew | apply IsS54.set_0 | refine IsS54.far ?_ NB166_164.out _ | refine IsS54.far ?_ NB166_171.out _) | exact HI166.out)) (by (with_reducible repeat (first | apply Kd.R_alloc | apply Kd.R_drewN | apply Kd.R_drew)); exact HO_172002.out) (by decide)) hk (fun _ h => h.2)) (fun _ h => h.1))
                  have n1_ := Aside0.mk (KeepBut.blk hk (g' := gb164) (o := .cells #[.int .i64 0, .int .i64 0, .slice none 0 0] 24 (0, 0)) (by (with_reducible repeat (first | refine blk_drewN ?_ _ | refine blk_drew ?_ | refine blk_alloc ?_ _)); exact BK164.out) NB164_166.out (by simp))
                  have n2_ := Aside0.mk (KeepBut.blk hk (g' := gb171) (o := .cells #[.int .i64 t167, .int .i64 t169, u172002] 24 (0, 0)) (by (with_reducible repeat (first | refine blk_drewN ?_ _ | refine blk_drew ?_ | refine blk_alloc ?_ _)); exact BK171.out) NB171_166.out (by simp))
                  have n3_ := Aside0.mk (hb)
                  have n4_ := Aside0.mk (hi)
                  clear HO_172002
                  clear BK164
                  clear BK171
                  clear HB
                  clear HI166
                  have HO_172002 := n0_
                  have BK164 := n1_
                  have BK171 := n2_
                  have HB := n3_
                  have HI166 := n4_
                  clear n0_ n1_ n2_ n3_ n4_
                  (try clear hb)
                  (try clear hb2)
                  (try clear hk)
                  (try clear hi)
                  refine hK.out _ _ trivial (fun hHeld => ?_)
                  clear hK K
                  refine norm_ (a' := ?_) ?_ ?_
                  rotate_left
                  · show Act.put _ (some 43) _ = _
                    simp only [Act.put, List.setIfInBounds_toArray, List.set_cons_zero, List.set_cons_succ, i64_w, i32_w]
                    rfl
                  refine pure_ (i := 7) (N := some 44) (v := ?_) (a' := ?_) #[true, true, true, true, true, true, true, true, false] rfl rfl (any_of HT_.out (by kernel_rfl)) (fun _ _ _ h => h) (Or.inl ⟨by rfl, ?_⟩) ?_ ?_
                  rotate_left
                  · intro w'
                    go_simp
                    with_reducible rfl
                  rotate_left
                  · simp only [Act.put, List.setIfInBounds_toArray, List.set_cons_zero, List.set_cons_succ, i64_w, i32_w]
                    rfl
                  refine pure_ (i := 8) (N := some 11) (v := ?_) (a' := ?_) #[true, true, true, true, true, true, true, true, true] rfl rfl (any_of HT_.out (by kernel_rfl)) (fun _ _ _ h => h) (Or.inl ⟨by rfl, ?_⟩) ?_ ?_
                  rotate_left
                  · intro w'
                    go_simp
                    with_reducible rfl
                  rotate_left
                  · simp only [Act.put, List.setIfInBounds_toArray, List.set_cons_zero, List.set_cons_succ, i64_w, i32_w]
                    rfl
                  refine done_ (done_of HT_.out (by kernel_rfl)) ?_
                  try go_wp2
                  have n0_ := Aside0.mk (Kd.R_drew HO_172002.out)
                  have n1_ := Aside0.mk (blk_drew BK164.out)
                  have n2_ := Aside0.mk (blk_drew BK171.out)
                  have n3_ := Aside0.mk (IsS54.drew HI166.out)
                  have n4_ := Aside0.mk (below_drew1 HB.out)
                  clear HO_172002
                  clear BK164
                  clear BK171
                  clear HI166
                  clear HB
                  have HO_172002 := n0_
                  have BK164 := n1_
                  have BK171 := n2_
                  have HI166 := n3_
                  have HB := n4_
                  clear n0_ n1_ n2_ n3_ n4_
                  refine start_ (n := 10) (S := fun w' => w'.cell? ⟨gb171, 0, none⟩ = some (.int .i64 t167) ∧ w'.cell? ⟨gb171, 1, none⟩ = some (.int .i64 t169) ∧ w'.cell? ⟨gb171, 2, none⟩ = some (u172002)) (ds := [9]) #[false, false, false, false, false, false, false, false, false, false] (by kernel_rfl) rfl rfl ⟨(blk_cell BK171.out 0).trans rfl, (blk_cell BK171.out 1).trans rfl, (blk_cell BK171.out 2).trans rfl⟩ (fun hHeld => ?_); refine with_tabW node_Decode.tab11 node_Decode.bits11 (fun HT_ HW_ => ?_)
                  generalize w30.drew = w31 at HO_172002 BK164 BK171 HI166 HB hHeld ⊢
                  refine pure_ (i := 0) (N := some 45) (v := ?_) (a' := ?_) #[true, false, false, false, false, false, false, false, false, false] rfl rfl (any_of HT_.out (by kernel_rfl)) (fun _ _ _ h => h) (Or.inl ⟨by rfl, ?_⟩) ?_ ?_
                  rotate_left
                  · intro w'
                    go_simp
                    with_reducible rfl
                  rotate_left
                  · simp only [Act.put, List.setIfInBounds_toArray, List.set_cons_zero, List.set_cons_succ, i64_w, i32_w]
                    rfl
                  refine pure_ (i := 2) (N := some 47) (v := ?_) (a' := ?_) #[true, false, true, false, false, false, false, false, false, false] rfl rfl (any_of HT_.out (by kernel_rfl)) (fun _ _ _ h => h) (Or.inl ⟨by rfl, ?_⟩) ?_ ?_
                  rotate_left
                  · intro w'
                    go_simp
                    with_reducible rfl
                  rotate_left
                  · simp only [Act.put, List.setIfInBounds_toArray, List.set_cons_zero, List.set_cons_succ, i64_w, i32_w]
                    rfl
                  refine pure_ (i := 3) (N := some 48) (v := ?_) (a' := ?_) #[true, false, true, true, false, false, false, false, false, false] rfl rfl (any_of HT_.out (by kernel_rfl)) (fun _ _ _ h => h) (Or.inl ⟨by rfl, ?_⟩) ?_ ?_
                  rotate_left
                  · intro w'
                    go_simp
                    with_reducible rfl
                  rotate_left
                  · simp only [Act.put, List.setIfInBounds_toArray, List.set_cons_zero, List.set_cons_succ, i64_w, i32_w]
                    rfl
                  refine take_ (i := 1) (N := some 46) (v := ?_) (a' := ?_) #[true, true, true, true, false, false, false, false, false, false] rfl rfl (take_ofW HT_.out HW_.out (by kernel_rfl)) (fun _ _ _ h => h) (Or.inl ⟨by rfl, ?_⟩) hHeld ?_ ?_
                  rotate_left
                  · rintro w' ⟨s0, s1, s2⟩
                    go_simp
                    with_reducible rfl
                  rotate_left
                  · simp only [Act.put, List.setIfInBounds_toArray, List.set_cons_zero, List.set_cons_succ, i64_w, i32_w]
                    rfl
                  refine one_ (i := 4) (N := some 49) #[true, true, true, true, true, false, false, false, false, false] rfl rfl (one_of HT_.out (by kernel_rfl)) (by decide) (fun K hK => ?_)
                  refine goesBr_ Try.func37 (by kernel_rfl) rfl #[.pointer (some ⟨gb166, 0, none⟩), .int .i64 4] (by rfl) rfl rfl (by rfl) (by (try simp only [List.map_toArray, List.map_cons, List.map_nil]); first | done | rfl | (simp only [List.length_drop, List.length_take]; rfl)) ?_
                  with_reducible refine (node_reader_number.calls gb166 t181 4 t182 t183 w _ ?side1 ?side2 A25.out).mono ?_
                  (case side1 => repeat (first | (with_reducible first | exact HI166.out | apply IsS54.alloc | apply IsS54.drewN | apply IsS54.drew | apply IsS54.set_0 | refine IsS54.far ?_ NB166_164.out _ | refine IsS54.far ?_ NB166_171.out _) | exact HI166.out))
                  (case side2 => repeat (first | (with_reducible first | exact HB.out | apply below_alloc | apply pw_below_drewN | apply below_drew1 | refine below_set ?_ (IsS54.ge HI166.out) | refine below_set ?_ GE164.out | refine below_set ?_ GE171.out) | exact HB.out))
                  rintro e w32 ⟨rfl, hi, hb, hk⟩
                  refine ⟨_, rfl, ?_⟩
                  have n0_ := Aside0.mk (Kd.R_mono (Kd.R_keep (IsS54.apart (show IsS54 w _ gb166 t181 from by repeat (first | (with_reducible first | exact HI166.out | apply IsS54.alloc | apply IsS54.drewN | apply IsS54.drew | apply IsS54.set_0 | refine IsS54.far ?_ NB166_164.out _ | refine IsS54.far ?_ NB166_171.out _) | exact HI166.out)) (by (with_reducible repeat (first | apply Kd.R_alloc | apply Kd.R_drewN | apply Kd.R_drew)); exact HO_172002.out) (by decide)) hk (fun _ h => h.2)) (fun _ h => h.1))
                  have n1_ := Aside0.mk (KeepBut.blk hk (g' := gb164) (o := .cells #[.int .i64 0, .int .i64 0, .slice none 0 0] 24 (0, 0)) (by (with_reducible repeat (first | refine blk_drewN ?_ _ | refine blk_drew ?_ | refine blk_alloc ?_ _)); exact BK164.out) NB164_166.out (by simp))
                  have n2_ := Aside0.mk (KeepBut.blk hk (g' := gb171) (o := .cells #[.int .i64 t167, .int .i64 t169, u172002] 24 (0, 0)) (by (with_reducible repeat (first | refine blk_drewN ?_ _ | refine blk_drew ?_ | refine blk_alloc ?_ _)); exact BK171.out) NB171_166.out (by simp))
                  have n3_ := Aside0.mk (hb)
                  have n4_ := Aside0.mk (hi)
                  clear HO_172002
                  clear BK164
                  clear BK171
                  clear HB
                  clear HI166
                  have HO_172002 := n0_
                  have BK164 := n1_
                  have BK171 := n2_
                  have HB := n3_
                  have HI166 := n4_
                  clear n0_ n1_ n2_ n3_ n4_
                  (try clear hb)
                  (try clear hb2)
                  (try clear hk)
                  (try clear hi)
                  refine hK.out _ _ ⟨(blk_cell BK171.out 0).trans rfl, (blk_cell BK171.out 1).trans rfl, (blk_cell BK171.out 2).trans rfl⟩ (fun hHeld => ?_)
                  clear hK K
                  refine norm_ (a' := ?_) ?_ ?_
                  rotate_left
                  · show Act.put _ (some 49) _ = _
                    simp only [Act.put, List.setIfInBounds_toArray, List.set_cons_zero, List.set_cons_succ, i64_w, i32_w]
                    rfl
                  refine pure_ (i := 5) (N := some 50) (v := ?_) (a' := ?_) #[true, true, true, true, true, true, false, false, false, false] rfl rfl (any_of HT_.out (by kernel_rfl)) (fun _ _ _ h => h) (Or.inl ⟨by rfl, ?_⟩) ?_ ?_
                  rotate_left
                  · intro w'
                    go_simp
                    with_reducible rfl
                  rotate_left
                  · simp only [Act.put, List.setIfInBounds_toArray, List.set_cons_zero, List.set_cons_succ, i64_w, i32_w]
                    rfl
                  refine one_ (i := 6) (N := some 51) #[true, true, true, true, true, true, true, false, false, false] rfl rfl (one_of HT_.out (by kernel_rfl)) (by decide) (fun K hK => ?_)
                  refine value_ (w1 := ?_) (v := ?_) (by rfl) rfl ?_ ?_
                  rotate_left 2
                  · go_simp
                    constructor
                    · rfl
                    · rfl
                  refine hK.out _ _ ⟨(blk_cell (blk_alloc BK171.out _) 0).trans rfl, (blk_cell (blk_alloc BK171.out _) 1).trans rfl, (blk_cell (blk_alloc BK171.out _) 2).trans rfl⟩ (fun hHeld => ?_)
                  clear hK K
                  refine norm_ (a' := ?_) ?_ ?_
                  rotate_left
                  · show Act.put _ (some 51) _ = _
                    simp only [Act.put, List.setIfInBounds_toArray, List.set_cons_zero, List.set_cons_succ, i64_w, i32_w]
                    rfl
                  refine one_ (i := 7) (N := some 52) #[true, true, true, true, true, true, true, true, false, false] rfl rfl (one_of HT_.out (by kernel_rfl)) (by decide) (fun K hK => ?_)
                  refine Kd.R_append_step k32 (w0 := w) w.heap.size (by rfl) (.tmp 46) (.tmp 51) 22 32 (.agg #[(.string ⟨#[]⟩), (.int .i64 0)]) 24 rfl Try.underlying22 info32 rfl (by decide) (by omega) u172002 x172002_1 (⟨(x9_1.extract 0 ((ji19) : Int).toNat) ++ t180, t182⟩ : S32) [.string ((x9_1.extract 0 ((ji19) : Int).toNat) ++ t180), .int .i64 t182] (fun _ => True) (fun _ => False) rfl rfl ?aP (fun _ hk => hk.elim) ?aF ?aO ?aB ?aS ?aL ?_
                  (case aP => exact k32_mkM _ _ _ (⟨(x9_1.extract 0 ((ji19) : Int).toNat) ++ t180, t182⟩ : S32))
                  (case aB => exact (by repeat (first | (with_reducible first | exact HB.out | apply below_alloc | apply pw_below_drewN | apply below_drew1 | refine below_set ?_ (IsS54.ge HI166.out) | refine below_set ?_ GE164.out | refine below_set ?_ GE171.out) | exact HB.out)))
                  (case aF => exact (fun _ _ => trivial))
                  (case aO => exact (by (with_reducible repeat (first | apply Kd.R_alloc | apply Kd.R_drewN | apply Kd.R_drew)); exact HO_172002.out))
                  (case aS => exact (below_size (by repeat (first | (with_reducible first | exact HB.out | apply below_alloc | apply pw_below_drewN | apply below_drew1 | refine below_set ?_ (IsS54.ge HI166.out) | refine below_set ?_ GE164.out | refine below_set ?_ GE171.out) | exact HB.out))))
                  (case aL => have := LMc26.out; omega)
                  intro v185 w33 ho hb hg hat
                  rw [← Ny184.out] at ho
                  have n0_ := Aside0.mk (blk_grown (g := gb164) (o := .cells #[.int .i64 0, .int .i64 0, .slice none 0 0] 24 (0, 0)) (by (with_reducible repeat (first | refine blk_drewN ?_ _ | refine blk_drew ?_ | refine blk_alloc ?_ _)); exact BK164.out) hg (Kd.R_ne HO_172002.out BK164.out (by decide)))
                  have n1_ := Aside0.mk (blk_grown (g := gb171) (o := .cells #[.int .i64 t167, .int .i64 t169, u172002] 24 (0, 0)) (by (with_reducible repeat (first | refine blk_drewN ?_ _ | refine blk_drew ?_ | refine blk_alloc ?_ _)); exact BK171.out) hg (Kd.R_ne HO_172002.out BK171.out (by decide)))
                  have n2_ := Aside0.mk (IsS54.grown (by repeat (first | (with_reducible first | exact HI166.out | apply IsS54.alloc | apply IsS54.drewN | apply IsS54.drew | apply IsS54.set_0 | refine IsS54.far ?_ NB166_164.out _ | refine IsS54.far ?_ NB166_171.out _) | exact HI166.out)) hg (IsS54.own_ne HI166.out HO_172002.out (by decide)))
                  have n3_ := Aside0.mk (hb)
                  have n4_ := Aside0.mk (ho)
                  clear BK164
                  clear BK171
                  clear HI166
                  clear HB
                  clear HO_172002
                  have BK164 := n0_
                  have BK171 := n1_
                  have HI166 := n2_
                  have HB := n3_
                  have HO186 := n4_
                  clear n0_ n1_ n2_ n3_ n4_
                  clear ho hb hg hat
                  obtain ⟨Ao34, co34, eo34⟩ := Kd.R_slice HO186.out
                  (first | subst eo34 | (injection eo34 with f1_ f2_ f3_; have f4_ := f1_.symm; have f5_ := f3_.symm; clear f1_ f2_ f3_; subst f4_; subst f5_))
                  refine hK.out _ _ ⟨(blk_cell BK171.out 0).trans rfl, (blk_cell BK171.out 1).trans rfl, (blk_cell BK171.out 2).trans rfl⟩ (fun hHeld => ?_)
                  clear hK K
                  refine norm_ (a' := ?_) ?_ ?_
                  rotate_left
                  · show Act.put _ (some 52) _ = _
                    simp only [Act.put, List.setIfInBounds_toArray, List.set_cons_zero, List.set_cons_succ, i64_w, i32_w]
                    rfl
                  refine pure_ (i := 8) (N := some 53) (v := ?_) (a' := ?_) #[true, true, true, true, true, true, true, true, true, false] rfl rfl (any_of HT_.out (by kernel_rfl)) (fun _ _ _ h => h) (Or.inl ⟨by rfl, ?_⟩) ?_ ?_
                  rotate_left
                  · intro w'
                    go_simp
                    with_reducible rfl
                  rotate_left
                  · simp only [Act.put, List.setIfInBounds_toArray, List.set_cons_zero, List.set_cons_succ, i64_w, i32_w]
                    rfl
                  refine last_ (i := 9) (N := none) #[true, true, true, true, true, true, true, true, true, true] rfl rfl (one_of HT_.out (by kernel_rfl)) (by decide) (fun K hK => ?_)
                  have hs35 : w33.cell? ⟨gb171, 2, none⟩ = some (u172002) := (blk_cell BK171.out 2).trans rfl
                  have hfs35 := blk_frozen BK171.out 2
                  have hns35_0 := NB164_171.out
                  have hms35_0 := NB171_164.out
                  refine skip_ (w1 := ?_) (by rfl) rfl ?_ ?_
                  rotate_left
                  · go_simp
                    rfl
                  refine hK.out _ _ ?_
                  clear hK K
                  refine done_ (done_of HT_.out (by kernel_rfl)) ?_
                  try go_wp2
                  go_roundg k1
                  case measure => have := HK1.out; omega
                  case rel => exact ⟨((x9_1.extract 0 ((ji19) : Int).toNat) ++ t180), (wrap64 (x30_1 + 1)), (t183), (y184), (.slice Ao34 y184.length co34), (by first | rfl | (simp; done) | (simp only [← hji19] <;> (first | rfl | simp)) | (simp [*]; done)), (by first | rfl | (simp; done) | (simp [*]; done)), H', ⟨by have := HK1.out; omega⟩, ⟨by (with_reducible repeat (first | apply Kd.R_alloc | apply Kd.R_drewN | apply Kd.R_drew)); exact Kd.R_mono (Kd.R_far (p := ⟨gb171, 2, none⟩) (Kd.R_types HO186.out BK171.out (by decide)) (fun _ hk => hk.2) (.slice Ao34 y184.length co34)) (fun _ hk => trivial)⟩, ⟨by (with_reducible repeat (first | refine blk_drewN ?_ _ | refine blk_drew ?_ | refine blk_alloc ?_ _)); refine blk_far ?_ NB164_171.out _; (with_reducible repeat (first | refine blk_drewN ?_ _ | refine blk_drew ?_ | refine blk_alloc ?_ _)); exact BK164.out⟩, ⟨by (with_reducible repeat (first | refine blk_drewN ?_ _ | refine blk_drew ?_ | refine blk_alloc ?_ _)); refine blk_put (cs := #[.int .i64 t167, .int .i64 t169, u172002]) ?_ 2 _ rfl; (with_reducible repeat (first | refine blk_drewN ?_ _ | refine blk_drew ?_ | refine blk_alloc ?_ _)); exact BK171.out⟩, ⟨by repeat (first | (with_reducible first | exact HI166.out | apply IsS54.alloc | apply IsS54.drewN | apply IsS54.drew | apply IsS54.set_0 | refine IsS54.far ?_ NB166_164.out _ | refine IsS54.far ?_ NB166_171.out _) | exact HI166.out)⟩, ⟨by repeat (first | (with_reducible first | exact HB.out | apply below_alloc | apply pw_below_drewN | apply below_drew1 | refine below_set ?_ (IsS54.ge HI166.out) | refine below_set ?_ GE164.out | refine below_set ?_ GE171.out) | exact HB.out)⟩⟩
                · rw [if_neg c26] at H
                  exact absurd H (by simp)
              · rw [if_neg c24] at H
                exact absurd H (by simp)
            · rw [if_neg c21] at H
              exact absurd H (by simp)
          · rw [if_neg c20] at H
            exact absurd H (by simp)
        · rw [if_neg c17] at H
          have c17b0 : decide (x30_1 < t172) = false := decide_eq_false c17
          clear c17
          replace H := Option.bind_eq_some_iff.mp H
          obtain ⟨⟨t174, t175⟩, A360, H⟩ := H
          replace H : (if t175 = 0 then (if t174.toList = a1.toList then (some (t167, t169, x172002_1, 0)) else (some (0, 0, ([] : List (S32)), 11))) else (some (0, 0, ([] : List (S32)), 11))) = some (r1, r2, r3, r4) := H
          have A36 := Aside0.mk A360
          clear A360
          by_cases c37 : t175 = 0
          · rw [if_pos c37] at H
            have c37b0 : (t175 == 0) = true := beq_iff_eq.mpr c37
            have c37b1 : (t175 != 0) = false := bne_eq_false_iff_eq.mpr c37
            clear c37
            by_cases c38 : t174.toList = a1.toList
            · rw [if_pos c38] at H
              have c38b0 : (t174.toList == a1.toList) = true := beq_iff_eq.mpr c38
              have c38b1 : (t174.toList != a1.toList) = false := bne_eq_false_iff_eq.mpr c38
              clear c38
              simp only [Option.some.injEq, Prod.mk.injEq] at H
              obtain ⟨rfl, rfl, rfl, rfl⟩ := H
              have hnb39 := NB171_164.out
              have hnc39 := NB164_171.out
              have hnb40 := NB171_166.out
              have hnc40 := NB166_171.out
              have hcz41_0 : wr.cell? ⟨gb171, 0, none⟩ = some (.int .i64 t167) := (blk_cell BK171.out 0).trans rfl
              have hcz41_1 : wr.cell? ⟨gb171, 1, none⟩ = some (.int .i64 t169) := (blk_cell BK171.out 1).trans rfl
              have hcz41_2 : wr.cell? ⟨gb171, 2, none⟩ = some (u172002) := (blk_cell BK171.out 2).trans rfl
              have hfz41_0 := blk_frozen BK171.out 0
              have hfz41_1 := blk_frozen BK171.out 1
              have hfz41_2 := blk_frozen BK171.out 2
              obtain ⟨Ao42, co42, eo42⟩ := Kd.R_slice HO_172002.out
              subst eo42
              go_wp2_with (first | ((with_reducible refine gate_callee (f := 23) rfl ?_); refine goesL_ (some 59) rfl rfl Try.func23 (by kernel_rfl) rfl #[.int .i64 a0, .agg #[.int .i64 t167, .int .i64 t169, .slice Ao42 x172002_1.length co42]] rfl (by (try simp only [List.map_toArray, List.map_cons, List.map_nil]); first | done | rfl | (simp only [List.length_drop, List.length_take]; rfl)) ?_; (with_reducible refine (node_Encode.calls k1 a0 t167 t169 _ _ x172002_1 t174 t175 _ ?side1 ?side2 A36.out).mono ?_); (case side1 => repeat (first | exact (Kd.R_reads' HO_172002.out).2.2 | (with_reducible refine Kd.C_alloc ?_ _) | (with_reducible refine Kd.C_drewN ?_ _) | (with_reducible refine Kd.C_drew ?_))); (case side2 => exact (Kd.R_reads' HO_172002.out).2.1); rintro e w43 ⟨rfl, hb⟩; refine ⟨_, rfl, ?_⟩; have n0_ := Aside0.mk (Kd.R_below (by (with_reducible repeat (first | apply Kd.R_alloc | apply Kd.R_drewN | apply Kd.R_drew)); exact HO_172002.out) hb); have n1_ := Aside0.mk (blk_below (g := gb164) (o := .cells #[.int .i64 0, .int .i64 0, .slice none 0 0] 24 (0, 0)) (by (with_reducible repeat (first | refine blk_drewN ?_ _ | refine blk_drew ?_ | refine blk_alloc ?_ _)); exact BK164.out) hb); have n2_ := Aside0.mk (blk_below (g := gb171) (o := .cells #[.int .i64 t167, .int .i64 t169, .slice Ao42 x172002_1.length co42] 24 (0, 0)) (by (with_reducible repeat (first | refine blk_drewN ?_ _ | refine blk_drew ?_ | refine blk_alloc ?_ _)); exact BK171.out) hb); have n3_ := Aside0.mk (IsS54.below (by repeat (first | (with_reducible first | exact HI166.out | apply IsS54.alloc | apply IsS54.drewN | apply IsS54.drew | apply IsS54.set_0 | refine IsS54.far ?_ NB166_164.out _ | refine IsS54.far ?_ NB166_171.out _) | exact HI166.out)) hb); have n4_ := Aside0.mk (below_step (by repeat (first | (with_reducible first | exact HB.out | apply below_alloc | apply pw_below_drewN | apply below_drew1 | refine below_set ?_ (IsS54.ge HI166.out) | refine below_set ?_ GE164.out | refine below_set ?_ GE171.out) | exact HB.out)) hb); clear HO_172002; clear BK164; clear BK171; clear HI166; clear HB; have HO_172002 := n0_; have BK164 := n1_; have BK171 := n2_; have HI166 := n3_; have HB := n4_; clear n0_ n1_ n2_ n3_ n4_; (try clear hb); (try clear hb2); (try clear hk); (try clear hi); have hcz44_0 : w43.cell? ⟨gb171, 0, none⟩ = some (.int .i64 t167) := (blk_cell BK171.out 0).trans rfl; have hcz44_1 : w43.cell? ⟨gb171, 1, none⟩ = some (.int .i64 t169) := (blk_cell BK171.out 1).trans rfl; have hcz44_2 : w43.cell? ⟨gb171, 2, none⟩ = some (.slice Ao42 x172002_1.length co42) := (blk_cell BK171.out 2).trans rfl; have hfz44_0 := blk_frozen BK171.out 0; have hfz44_1 := blk_frozen BK171.out 1; have hfz44_2 := blk_frozen BK171.out 2; have hnb45 := NB164_166.out; have hnc45 := NB166_164.out; have hcz46_0 : w43.cell? ⟨gb164, 0, none⟩ = some (.int .i64 0) := (blk_cell BK164.out 0).trans rfl; have hcz46_1 : w43.cell? ⟨gb164, 1, none⟩ = some (.int .i64 0) := (blk_cell BK164.out 1).trans rfl; have hcz46_2 : w43.cell? ⟨gb164, 2, none⟩ = some (.slice none 0 0) := (blk_cell BK164.out 2).trans rfl; have hfz46_0 := blk_frozen BK164.out 0; have hfz46_1 := blk_frozen BK164.out 1; have hfz46_2 := blk_frozen BK164.out 2))
              refine bodyPost_ret (results_ct rfl _ _ gb164 24 #[.int .i64 t167, .int .i64 t169, .slice Ao42 x172002_1.length co42] (0, 0) _ rfl (by (with_reducible repeat (first | refine blk_drewN ?_ _ | refine blk_drew ?_ | refine blk_alloc ?_ _)); refine blk_put (cs := #[.int .i64 t167, .int .i64 t169, .slice none 0 0]) ?_ 2 _ rfl; (with_reducible repeat (first | refine blk_drewN ?_ _ | refine blk_drew ?_ | refine blk_alloc ?_ _)); refine blk_put (cs := #[.int .i64 t167, .int .i64 0, .slice none 0 0]) ?_ 1 _ rfl; (with_reducible repeat (first | refine blk_drewN ?_ _ | refine blk_drew ?_ | refine blk_alloc ?_ _)); refine blk_put (cs := #[.int .i64 0, .int .i64 0, .slice none 0 0]) ?_ 0 _ rfl; (with_reducible repeat (first | refine blk_drewN ?_ _ | refine blk_drew ?_ | refine blk_alloc ?_ _)); exact BK164.out) Try.underlying24 rfl (by kernel_rfl)) rfl ?_
              exact ⟨_, by first | rfl | (simp [errW_none, errW_some] <;> rfl) | (simp [*, errW_none, errW_some] <;> rfl), by (with_reducible repeat (first | apply Kd.R_alloc | apply Kd.R_drewN | apply Kd.R_drew)); exact Kd.R_mono (Kd.R_far (p := ⟨gb164, 2, none⟩) (Kd.R_far (p := ⟨gb164, 1, none⟩) (Kd.R_far (p := ⟨gb164, 0, none⟩) (Kd.R_types HO_172002.out BK164.out (by decide)) (fun _ hk => hk.2) (.int .i64 t167)) (fun _ hk => hk.2) (.int .i64 t169)) (fun _ hk => hk.2) (.slice Ao42 x172002_1.length co42)) (fun _ hk => trivial), by repeat (first | (with_reducible first | exact HB.out | apply below_alloc | apply pw_below_drewN | apply below_drew1 | refine below_set ?_ (IsS54.ge HI166.out) | refine below_set ?_ GE164.out | refine below_set ?_ GE171.out) | exact HB.out)⟩
            · rw [if_neg c38] at H
              have c38b0 : (t174.toList == a1.toList) = false := beq_eq_false_iff_ne.mpr c38
              have c38b1 : (t174.toList != a1.toList) = true := bne_iff_ne.mpr c38
              simp only [Option.some.injEq, Prod.mk.injEq] at H
              obtain ⟨rfl, rfl, rfl, rfl⟩ := H
              have hnb47 := NB171_164.out
              have hnc47 := NB164_171.out
              have hnb48 := NB171_166.out
              have hnc48 := NB166_171.out
              have hcz49_0 : wr.cell? ⟨gb171, 0, none⟩ = some (.int .i64 t167) := (blk_cell BK171.out 0).trans rfl
              have hcz49_1 : wr.cell? ⟨gb171, 1, none⟩ = some (.int .i64 t169) := (blk_cell BK171.out 1).trans rfl
              have hcz49_2 : wr.cell? ⟨gb171, 2, none⟩ = some (u172002) := (blk_cell BK171.out 2).trans rfl
              have hfz49_0 := blk_frozen BK171.out 0
              have hfz49_1 := blk_frozen BK171.out 1
              have hfz49_2 := blk_frozen BK171.out 2
              obtain ⟨Ao50, co50, eo50⟩ := Kd.R_slice HO_172002.out
              subst eo50
              go_wp2_with (first | ((with_reducible refine gate_callee (f := 23) rfl ?_); refine goesL_ (some 59) rfl rfl Try.func23 (by kernel_rfl) rfl #[.int .i64 a0, .agg #[.int .i64 t167, .int .i64 t169, .slice Ao50 x172002_1.length co50]] rfl (by (try simp only [List.map_toArray, List.map_cons, List.map_nil]); first | done | rfl | (simp only [List.length_drop, List.length_take]; rfl)) ?_; (with_reducible refine (node_Encode.calls k1 a0 t167 t169 _ _ x172002_1 t174 t175 _ ?side1 ?side2 A36.out).mono ?_); (case side1 => repeat (first | exact (Kd.R_reads' HO_172002.out).2.2 | (with_reducible refine Kd.C_alloc ?_ _) | (with_reducible refine Kd.C_drewN ?_ _) | (with_reducible refine Kd.C_drew ?_))); (case side2 => exact (Kd.R_reads' HO_172002.out).2.1); rintro e w51 ⟨rfl, hb⟩; refine ⟨_, rfl, ?_⟩; have n0_ := Aside0.mk (Kd.R_below (by (with_reducible repeat (first | apply Kd.R_alloc | apply Kd.R_drewN | apply Kd.R_drew)); exact HO_172002.out) hb); have n1_ := Aside0.mk (blk_below (g := gb164) (o := .cells #[.int .i64 0, .int .i64 0, .slice none 0 0] 24 (0, 0)) (by (with_reducible repeat (first | refine blk_drewN ?_ _ | refine blk_drew ?_ | refine blk_alloc ?_ _)); exact BK164.out) hb); have n2_ := Aside0.mk (blk_below (g := gb171) (o := .cells #[.int .i64 t167, .int .i64 t169, .slice Ao50 x172002_1.length co50] 24 (0, 0)) (by (with_reducible repeat (first | refine blk_drewN ?_ _ | refine blk_drew ?_ | refine blk_alloc ?_ _)); exact BK171.out) hb); have n3_ := Aside0.mk (IsS54.below (by repeat (first | (with_reducible first | exact HI166.out | apply IsS54.alloc | apply IsS54.drewN | apply IsS54.drew | apply IsS54.set_0 | refine IsS54.far ?_ NB166_164.out _ | refine IsS54.far ?_ NB166_171.out _) | exact HI166.out)) hb); have n4_ := Aside0.mk (below_step (by repeat (first | (with_reducible first | exact HB.out | apply below_alloc | apply pw_below_drewN | apply below_drew1 | refine below_set ?_ (IsS54.ge HI166.out) | refine below_set ?_ GE164.out | refine below_set ?_ GE171.out) | exact HB.out)) hb); clear HO_172002; clear BK164; clear BK171; clear HI166; clear HB; have HO_172002 := n0_; have BK164 := n1_; have BK171 := n2_; have HI166 := n3_; have HB := n4_; clear n0_ n1_ n2_ n3_ n4_; (try clear hb); (try clear hb2); (try clear hk); (try clear hi); have hnb52 := NB164_166.out; have hnc52 := NB166_164.out; have hcz53_0 : w51.cell? ⟨gb164, 0, none⟩ = some (.int .i64 0) := (blk_cell BK164.out 0).trans rfl; have hcz53_1 : w51.cell? ⟨gb164, 1, none⟩ = some (.int .i64 0) := (blk_cell BK164.out 1).trans rfl; have hcz53_2 : w51.cell? ⟨gb164, 2, none⟩ = some (.slice none 0 0) := (blk_cell BK164.out 2).trans rfl; have hfz53_0 := blk_frozen BK164.out 0; have hfz53_1 := blk_frozen BK164.out 1; have hfz53_2 := blk_frozen BK164.out 2))
              refine bodyPost_ret (results_ct rfl _ _ gb164 24 #[.int .i64 0, .int .i64 0, .slice none 0 0] (0, 0) _ rfl (by (with_reducible repeat (first | refine blk_drewN ?_ _ | refine blk_drew ?_ | refine blk_alloc ?_ _)); refine blk_put (cs := #[.int .i64 0, .int .i64 0, .slice none 0 0]) ?_ 2 _ rfl; (with_reducible repeat (first | refine blk_drewN ?_ _ | refine blk_drew ?_ | refine blk_alloc ?_ _)); refine blk_put (cs := #[.int .i64 0, .int .i64 0, .slice none 0 0]) ?_ 1 _ rfl; (with_reducible repeat (first | refine blk_drewN ?_ _ | refine blk_drew ?_ | refine blk_alloc ?_ _)); refine blk_put (cs := #[.int .i64 0, .int .i64 0, .slice none 0 0]) ?_ 0 _ rfl; (with_reducible repeat (first | refine blk_drewN ?_ _ | refine blk_drew ?_ | refine blk_alloc ?_ _)); exact BK164.out) Try.underlying24 rfl (by kernel_rfl)) rfl ?_
              exact ⟨_, by first | rfl | (simp [errW_none, errW_some] <;> rfl) | (simp [*, errW_none, errW_some] <;> rfl), by first | exact Kd.R_nil _ _ _ _ _ | exact Kd.N_nil _ _ _ _ _ | exact Kd.V_nil _ _ _ _ _ | exact Kd.Q_nil _ _ _ _ _ | exact Kd.S_nil _ _ _ _ _, by repeat (first | (with_reducible first | exact HB.out | apply below_alloc | apply pw_below_drewN | apply below_drew1 | refine below_set ?_ (IsS54.ge HI166.out) | refine below_set ?_ GE164.out | refine below_set ?_ GE171.out) | exact HB.out)⟩
          · rw [if_neg c37] at H
            have c37b0 : (t175 == 0) = false := beq_eq_false_iff_ne.mpr c37
            have c37b1 : (t175 != 0) = true := bne_iff_ne.mpr c37
            simp only [Option.some.injEq, Prod.mk.injEq] at H
            obtain ⟨rfl, rfl, rfl, rfl⟩ := H
            have hnb54 := NB171_164.out
            have hnc54 := NB164_171.out
            have hnb55 := NB171_166.out
            have hnc55 := NB166_171.out
            have hcz56_0 : wr.cell? ⟨gb171, 0, none⟩ = some (.int .i64 t167) := (blk_cell BK171.out 0).trans rfl
            have hcz56_1 : wr.cell? ⟨gb171, 1, none⟩ = some (.int .i64 t169) := (blk_cell BK171.out 1).trans rfl
            have hcz56_2 : wr.cell? ⟨gb171, 2, none⟩ = some (u172002) := (blk_cell BK171.out 2).trans rfl
            have hfz56_0 := blk_frozen BK171.out 0
            have hfz56_1 := blk_frozen BK171.out 1
            have hfz56_2 := blk_frozen BK171.out 2
            obtain ⟨Ao57, co57, eo57⟩ := Kd.R_slice HO_172002.out
            subst eo57
            go_wp2_with (first | ((with_reducible refine gate_callee (f := 23) rfl ?_); refine goesL_ (some 59) rfl rfl Try.func23 (by kernel_rfl) rfl #[.int .i64 a0, .agg #[.int .i64 t167, .int .i64 t169, .slice Ao57 x172002_1.length co57]] rfl (by (try simp only [List.map_toArray, List.map_cons, List.map_nil]); first | done | rfl | (simp only [List.length_drop, List.length_take]; rfl)) ?_; (with_reducible refine (node_Encode.calls k1 a0 t167 t169 _ _ x172002_1 t174 t175 _ ?side1 ?side2 A36.out).mono ?_); (case side1 => repeat (first | exact (Kd.R_reads' HO_172002.out).2.2 | (with_reducible refine Kd.C_alloc ?_ _) | (with_reducible refine Kd.C_drewN ?_ _) | (with_reducible refine Kd.C_drew ?_))); (case side2 => exact (Kd.R_reads' HO_172002.out).2.1); rintro e w58 ⟨rfl, hb⟩; refine ⟨_, rfl, ?_⟩; have n0_ := Aside0.mk (Kd.R_below (by (with_reducible repeat (first | apply Kd.R_alloc | apply Kd.R_drewN | apply Kd.R_drew)); exact HO_172002.out) hb); have n1_ := Aside0.mk (blk_below (g := gb164) (o := .cells #[.int .i64 0, .int .i64 0, .slice none 0 0] 24 (0, 0)) (by (with_reducible repeat (first | refine blk_drewN ?_ _ | refine blk_drew ?_ | refine blk_alloc ?_ _)); exact BK164.out) hb); have n2_ := Aside0.mk (blk_below (g := gb171) (o := .cells #[.int .i64 t167, .int .i64 t169, .slice Ao57 x172002_1.length co57] 24 (0, 0)) (by (with_reducible repeat (first | refine blk_drewN ?_ _ | refine blk_drew ?_ | refine blk_alloc ?_ _)); exact BK171.out) hb); have n3_ := Aside0.mk (IsS54.below (by repeat (first | (with_reducible first | exact HI166.out | apply IsS54.alloc | apply IsS54.drewN | apply IsS54.drew | apply IsS54.set_0 | refine IsS54.far ?_ NB166_164.out _ | refine IsS54.far ?_ NB166_171.out _) | exact HI166.out)) hb); have n4_ := Aside0.mk (below_step (by repeat (first | (with_reducible first | exact HB.out | apply below_alloc | apply pw_below_drewN | apply below_drew1 | refine below_set ?_ (IsS54.ge HI166.out) | refine below_set ?_ GE164.out | refine below_set ?_ GE171.out) | exact HB.out)) hb); clear HO_172002; clear BK164; clear BK171; clear HI166; clear HB; have HO_172002 := n0_; have BK164 := n1_; have BK171 := n2_; have HI166 := n3_; have HB := n4_; clear n0_ n1_ n2_ n3_ n4_; (try clear hb); (try clear hb2); (try clear hk); (try clear hi); have hnb59 := NB164_166.out; have hnc59 := NB166_164.out; have hcz60_0 : w58.cell? ⟨gb164, 0, none⟩ = some (.int .i64 0) := (blk_cell BK164.out 0).trans rfl; have hcz60_1 : w58.cell? ⟨gb164, 1, none⟩ = some (.int .i64 0) := (blk_cell BK164.out 1).trans rfl; have hcz60_2 : w58.cell? ⟨gb164, 2, none⟩ = some (.slice none 0 0) := (blk_cell BK164.out 2).trans rfl; have hfz60_0 := blk_frozen BK164.out 0; have hfz60_1 := blk_frozen BK164.out 1; have hfz60_2 := blk_frozen BK164.out 2))
            refine bodyPost_ret (results_ct rfl _ _ gb164 24 #[.int .i64 0, .int .i64 0, .slice none 0 0] (0, 0) _ rfl (by (with_reducible repeat (first | refine blk_drewN ?_ _ | refine blk_drew ?_ | refine blk_alloc ?_ _)); refine blk_put (cs := #[.int .i64 0, .int .i64 0, .slice none 0 0]) ?_ 2 _ rfl; (with_reducible repeat (first | refine blk_drewN ?_ _ | refine blk_drew ?_ | refine blk_alloc ?_ _)); refine blk_put (cs := #[.int .i64 0, .int .i64 0, .slice none 0 0]) ?_ 1 _ rfl; (with_reducible repeat (first | refine blk_drewN ?_ _ | refine blk_drew ?_ | refine blk_alloc ?_ _)); refine blk_put (cs := #[.int .i64 0, .int .i64 0, .slice none 0 0]) ?_ 0 _ rfl; (with_reducible repeat (first | refine blk_drewN ?_ _ | refine blk_drew ?_ | refine blk_alloc ?_ _)); exact BK164.out) Try.underlying24 rfl (by kernel_rfl)) rfl ?_
            exact ⟨_, by first | rfl | (simp [errW_none, errW_some] <;> rfl) | (simp [*, errW_none, errW_some] <;> rfl), by first | exact Kd.R_nil _ _ _ _ _ | exact Kd.N_nil _ _ _ _ _ | exact Kd.V_nil _ _ _ _ _ | exact Kd.Q_nil _ _ _ _ _ | exact Kd.S_nil _ _ _ _ _, by repeat (first | (with_reducible first | exact HB.out | apply below_alloc | apply pw_below_drewN | apply below_drew1 | refine below_set ?_ (IsS54.ge HI166.out) | refine below_set ?_ GE164.out | refine below_set ?_ GE171.out) | exact HB.out)⟩
  · replace c4 := Bool.eq_false_iff.mpr c4
    subst c4
    have H1 : (some (0, 0, ([] : List (S32)), 1)) = some (r1, r2, r3, r4) := by rw [if_neg (show ¬ (false = true) by decide)] at H; exact H
    clear H
    have H := H1
    clear H1
    simp only [Option.some.injEq, Prod.mk.injEq] at H
    obtain ⟨rfl, rfl, rfl, rfl⟩ := H
    go_enter Try.func21, Try.ntmps21
    go_wp2_with (first | ((with_reducible refine gate_dst (N := 4) rfl ?_); refine box_event ?hg (N := 4) ?hd (cs := #[.int .i64 0, .int .i64 0, .slice none 0 0]) (t := 24) ?hr ?_; (case hd => rfl); (case hg => rfl); (case hr => first | (go_simp; done) | (go_simp; rfl)); intro gb164 hg w61 hbox hb; have n0_ := Aside0.mk (below_step (by repeat (first | (with_reducible first | exact HB.out | apply below_alloc | apply pw_below_drewN | apply below_drew1) | exact HB.out)) hb); have n1_ := Aside0.mk (hbox); have n2_ := Aside0.mk ((by rw [hg]; exact (below_size (by repeat (first | (with_reducible first | exact HB.out | apply below_alloc | apply pw_below_drewN | apply below_drew1) | exact HB.out))) : w.heap.size ≤ gb164)); have n3_ := Aside0.mk ((by rw [hg]; exact (below_size (by repeat (first | (with_reducible first | exact HB.out | apply below_alloc | apply pw_below_drewN | apply below_drew1) | exact HB.out))) : w.heap.size ≤ gb164)); clear HB; have HB := n0_; have BK164 := n1_; have GW164 := n2_; have GE164 := n3_; clear n0_ n1_ n2_ n3_; clear hb hbox hg) | ((with_reducible refine gate_callee (f := 36) rfl ?_); refine goesL_ (some 15) rfl rfl Try.func36 (by kernel_rfl) rfl #[.int .i64 a0] rfl (by (try simp only [List.map_toArray, List.map_cons, List.map_nil]); first | done | rfl | (simp only [List.length_drop, List.length_take]; rfl)) ?_; (with_reducible refine (node_isSize.calls a0 false _ A3.out).mono ?_); rintro e w' ⟨rfl, ⟨nd, rfl⟩⟩; refine ⟨_, rfl, ?_⟩; (try (rw [drewN_self w61]; generalize hq_ : World.drewN w61 _ = w61; have n0_ : Aside0 (w61.heap[gb164]? = some (.cells #[.int .i64 0, .int .i64 0, .slice none 0 0] 24 (0, 0))) := ⟨by rw [← hq_]; exact (by (with_reducible repeat (first | refine blk_drewN ?_ _ | refine blk_drew ?_ | refine blk_alloc ?_ _)); exact BK164.out)⟩; have n1_ : Aside0 (Below w.heap.size w w61) := ⟨by rw [← hq_]; exact (by repeat (first | (with_reducible first | exact HB.out | apply below_alloc | apply pw_below_drewN | apply below_drew1 | refine below_set ?_ GE164.out) | exact HB.out))⟩; clear BK164 HB hq_; have BK164 := n0_; have HB := n1_; clear n0_ n1_)); have hcz62_0 : w61.cell? ⟨gb164, 0, none⟩ = some (.int .i64 0) := (blk_cell BK164.out 0).trans rfl; have hcz62_1 : w61.cell? ⟨gb164, 1, none⟩ = some (.int .i64 0) := (blk_cell BK164.out 1).trans rfl; have hcz62_2 : w61.cell? ⟨gb164, 2, none⟩ = some (.slice none 0 0) := (blk_cell BK164.out 2).trans rfl; have hfz62_0 := blk_frozen BK164.out 0; have hfz62_1 := blk_frozen BK164.out 1; have hfz62_2 := blk_frozen BK164.out 2))
    refine bodyPost_ret (results_ct rfl _ _ gb164 24 #[.int .i64 0, .int .i64 0, .slice none 0 0] (0, 0) _ rfl (by (with_reducible repeat (first | refine blk_drewN ?_ _ | refine blk_drew ?_ | refine blk_alloc ?_ _)); refine blk_put (cs := #[.int .i64 0, .int .i64 0, .slice none 0 0]) ?_ 2 _ rfl; (with_reducible repeat (first | refine blk_drewN ?_ _ | refine blk_drew ?_ | refine blk_alloc ?_ _)); refine blk_put (cs := #[.int .i64 0, .int .i64 0, .slice none 0 0]) ?_ 1 _ rfl; (with_reducible repeat (first | refine blk_drewN ?_ _ | refine blk_drew ?_ | refine blk_alloc ?_ _)); refine blk_put (cs := #[.int .i64 0, .int .i64 0, .slice none 0 0]) ?_ 0 _ rfl; (with_reducible repeat (first | refine blk_drewN ?_ _ | refine blk_drew ?_ | refine blk_alloc ?_ _)); exact BK164.out) Try.underlying24 rfl (by kernel_rfl)) rfl ?_
    exact ⟨_, by first | rfl | (simp [errW_none, errW_some] <;> rfl) | (simp [*, errW_none, errW_some] <;> rfl), by first | exact Kd.R_nil _ _ _ _ _ | exact Kd.N_nil _ _ _ _ _ | exact Kd.V_nil _ _ _ _ _ | exact Kd.Q_nil _ _ _ _ _ | exact Kd.S_nil _ _ _ _ _, by repeat (first | (with_reducible first | exact HB.out | apply below_alloc | apply pw_below_drewN | apply below_drew1 | refine below_set ?_ GE164.out) | exact HB.out)⟩

end Go.Proofs.Ytffkgdaookidbaa.XNx
