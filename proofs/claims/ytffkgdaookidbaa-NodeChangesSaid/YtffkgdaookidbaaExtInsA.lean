/-
node.Insert at this dump, where it refuses: what it answers, for any arguments.
-/
import Derived.Test.YtffkgdaookidbaaExtIns
import Derived.Test.YtffkgdaookidbaaExtSplit
import Derived.Test.YtffkgdaookidbaaXNx4
set_option linter.unusedVariables false
set_option linter.unusedSimpArgs false
namespace Go.Proofs.Ytffkgdaookidbaa.XNx
open Go.RowKit Go.Proofs.YtffkgdaookidbaaW.PrintWords Go.Proofs.YtffkgdaookidbaaW.PrintLast Go.Proofs.YtffkgdaookidbaaW.PrintMore
open Go.Proofs.Ytffkgdaookidbaa.XW Go.Proofs.Ytffkgdaookidbaa.Base

theorem drawn_below {w w' : World} (h : Drawn0 w w') : Below w.heap.size w w' := by
  obtain ⟨⟨n, rfl⟩⟩ := h
  exact ⟨rfl, rfl, rfl, Nat.le_refl _, fun _ _ => rfl⟩
theorem ispage_calls (p : Int) (w : World) : Calls Try.prog 33 #[.int .i64 p] w fun e w' => e = .returned (.bool (decide (1 ≤ p ∧ p ≤ 16777216))) ∧ Below w.heap.size w w' :=
  (node_isPage.calls p _ w (page_f p)).mono fun e w' ⟨he, hb⟩ => ⟨he, drawn_below hb⟩
theorem two (w w2 : World) (o1 o2 : Obj) (hb : Below ((w.alloc o1).alloc o2).heap.size ((w.alloc o1).alloc o2) w2) :
    w2.heap[w.heap.size]? = some o1 ∧ w2.heap[w.heap.size + 1]? = some o2 ∧ Below w.heap.size w w2 ∧ w.heap.size + 1 < w2.heap.size := by
  have s1 : (w.alloc o1).heap.size = w.heap.size + 1 := by simp
  have q1 := blk_below (blk_alloc (blk_new w o1) o2) hb
  have q2 := blk_below (blk_new (w.alloc o1) o2) hb
  rw [s1] at q2
  exact ⟨q1, q2, below_step (((Below.refl w.heap.size w).alloc (Nat.le_refl _) o1).alloc (by simp) o2) hb, blk_lt q2⟩
theorem one_stored (w : World) (g t : Nat) (a0 a1 a2 x0 x1 x2 : Value) (hg : w.heap[g]? = some (.cells #[a0, a1, a2] t (0, 0))) :
    (((w.setCell ⟨g, 0, none⟩ x0).setCell ⟨g, 1, none⟩ x1).setCell ⟨g, 2, none⟩ x2).heap[g]? = some (.cells #[x0, x1, x2] t (0, 0)) := blk_put (blk_put (blk_put hg 0 x0 rfl) 1 x1 rfl) 2 x2 rfl
theorem three_below {W w : World} {g : Nat} (hb : Below W.heap.size W w) (hg : W.heap.size ≤ g) (x0 x1 x2 : Value) : Below W.heap.size W (((w.setCell ⟨g, 0, none⟩ x0).setCell ⟨g, 1, none⟩ x1).setCell ⟨g, 2, none⟩ x2) :=
  below_set (below_set (below_set hb hg) hg) hg
theorem en_at (l : List S32) (x : S32) (i : Nat) (hi : i < l.length) : en (l.take i ++ x :: l.drop i) (i + 1) = en l i := by
  have h : (l.take i ++ x :: l.drop i)[i + 1]? = l[i]? := by
    have hlt : (l.take i).length = i := by rw [List.length_take]; omega
    rw [List.getElem?_append_right (by omega), hlt, Nat.add_sub_cancel_left, List.getElem?_cons_succ, List.getElem?_drop, Nat.add_zero]
  unfold en rd_T32
  rw [Int.toNat_natCast, Int.toNat_natCast, List.getD_eq_getElem?_getD, List.getD_eq_getElem?_getD, h]
theorem grown_below {w0 w w1 : World} {B g : Nat} (hb : Below B w0 w) (hg : w.grownBy w1 (some g)) (h : B ≤ g) (hB : B ≤ w.heap.size) : Below B w0 w1 :=
  ⟨hg.os.trans hb.os, hg.tape.trans hb.tape, hg.output.trans hb.output, Nat.le_trans hb.size hg.size, fun k hk => (hg.block k (by omega) (by simp; omega)).trans (hb.block k hk)⟩
theorem alloc_lt (w : World) (o : Obj) : w.heap.size < (w.alloc o).heap.size := by simp
theorem nx (N M g : Nat) (h1 : N + 1 < M) (h2 : M < g) : some N ≠ some g ∧ some (N + 1) ≠ some g ∧ some M ≠ some g := ⟨fun h => by have := Option.some.inj h; omega, fun h => by have := Option.some.inj h; omega, fun h => by have := Option.some.inj h; omega⟩
theorem drew_le (w : World) : w.heap.size ≤ w.drew.heap.size := Nat.le_refl _
theorem alloc_drew_lt (w : World) (o : Obj) : w.heap.size < (w.alloc o).drew.heap.size := alloc_lt w o
theorem drew_alloc_lt (w : World) (o : Obj) : w.heap.size < (w.drew.alloc o).heap.size := alloc_lt w o
theorem blk_alloc_drew (w : World) (o : Obj) : (w.alloc o).drew.heap[w.heap.size]? = some o := blk_new w o
theorem blk_drew_alloc (w : World) (o : Obj) : (w.drew.alloc o).heap[w.heap.size]? = some o := blk_new w o
theorem ins_fin {w7 : World} {base g6 c6 N i m : Nat} {page : Int} {L' : List S32} {a0 a1 e0 : Value} (HO : Kd.R k32 32 w7 base (fun _ => True) (.slice (some ⟨g6, 0, none⟩) m c6) L') (hm : L'.length = m) (D2 : w7.heap[N + 1]? = some (.cells #[a0, a1, e0] 24 (0, 0))) (hne : N + 1 ≠ g6) (hi : i + 1 < m) (x0 x1 x2 : Value) :
    Kd.R k32 32 ((((w7.setCell ⟨g6, (i + 1) * 2 + 1, none⟩ (.int .i64 page)).setCell ⟨N + 1, 0, none⟩ x0).setCell ⟨N + 1, 1, none⟩ x1).setCell ⟨N + 1, 2, none⟩ x2) base (fun _ => True) (.slice (some ⟨g6, 0, none⟩) m c6) (L'.set (i + 1) ⟨(en L' (i + 1)).f0, page⟩) ∧
      ((((w7.setCell ⟨g6, (i + 1) * 2 + 1, none⟩ (.int .i64 page)).setCell ⟨N + 1, 0, none⟩ x0).setCell ⟨N + 1, 1, none⟩ x1).setCell ⟨N + 1, 2, none⟩ x2).heap[N + 1]? = some (.cells #[x0, x1, x2] 24 (0, 0)) := by
  have ht : ∀ q, q ∈ 32 :: k32.E → q ≠ 24 := by decide
  obtain ⟨ce, hcl, hM, hcc, hfr⟩ := Kd.R_elem HO z32 ((i + 1 : Nat) : Int) (by omega) (by omega)
  obtain rfl := k32_openM hM
  have HP := Kd.R_seg HO ((i + 1 : Nat) : Int) (by omega) (by omega) (seg := [.int .i64 page]) (j := 1) hcl hcc (show 2 ≤ 2 from by decide) (x' := (⟨(rd_T32 L' ((i + 1 : Nat) : Int)).f0, page⟩ : S32)) (k32_mkM _ _ _ (⟨(rd_T32 L' ((i + 1 : Nat) : Int)).f0, page⟩ : S32)) (fun _ hk => hk)
  have D3 := blk_far D2 (p := ⟨g6, (i + 1) * 2 + 1, none⟩) hne (.int .i64 page)
  exact ⟨Kd.R_set (Kd.R_set (Kd.R_set HP.1 D3 ht 0 x0) (blk_set D3 0 x0) ht 1 x1) (blk_set (blk_set D3 0 x0) 1 x1) ht 2 x2, one_stored _ _ _ _ _ _ x0 x1 x2 D3⟩
theorem ht24 : ∀ q, q ∈ 32 :: k32.E → q ≠ 24 := by decide
set_option maxHeartbeats 4000000 in
set_option maxRecDepth 100000 in
theorem ins_bad (a0_0 : Int) (a0_1 : Int) (A0_2 : Option Addr) (c0_2 : Nat) (l0_2 : List (S32)) (a1 : Int) (a2 : ByteArray) (a3 : Int) (w : World) (hr0_2 : Kd.C k32 w A0_2 l0_2.length l0_2) (hc0_2 : l0_2.length ≤ c0_2) (h : valid a0_0 a0_1 l0_2 = false) :
    Calls Try.prog 13 #[.agg #[.int .i64 a0_0, .int .i64 a0_1, .slice A0_2 l0_2.length c0_2], .int .i64 a1, .string a2, .int .i64 a3] w fun e w' => e = .returned (.tuple #[.agg #[.int .i64 0, .int .i64 0, .slice none 0 0], .int .i64 1]) ∧ Below w.heap.size w w' := by
  have hu24 := Try.underlying24
  have hu32 := Try.underlying32
  have HR := Aside0.mk hr0_2
  have HC := Aside0.mk hc0_2
  clear hr0_2 hc0_2
  go_enter Try.func13, Try.ntmps13
  go_wp2_with fail
  refine (plain_calls a0_0 a0_1 A0_2 c0_2 l0_2 _ (Kd.C_alloc (Kd.C_alloc HR.out _) _) HC.out).mono ?_
  rintro e w2 ⟨rfl, hb⟩
  obtain ⟨b1, b2, hB, hlt⟩ := two _ _ _ _ hb
  clear hb
  have HB := Aside0.mk hB
  have B1 := Aside0.mk b1
  have B2 := Aside0.mk b2
  have HLT := Aside0.mk hlt
  rw [h]
  have c10 := (blk_cell b1 0).trans rfl
  have c11 := (blk_cell b1 1).trans rfl
  have c12 := (blk_cell b1 2).trans rfl
  have c20 := (blk_cell b2 0).trans rfl
  have c21 := (blk_cell b2 1).trans rfl
  have c22 := (blk_cell b2 2).trans rfl
  have f20 := blk_frozen b2 0
  have f21 := blk_frozen b2 1
  have f22 := blk_frozen b2 2
  clear b1 b2 hB h hlt
  go_wp2
  have T := one_stored w2 (w.heap.size + 1) 24 _ _ _ (.int .i64 0) (.int .i64 0) (.slice none 0 0) B2.out
  refine bodyPost_ret (results_list (rs := [.cell 8 24, .tmp 9]) rfl (by simp) (.cell (w.heap.size + 1) 24 _ (0, 0) _ rfl T hu24 rfl (by kernel_rfl) (.tmp .nil))) rfl ?_
  exact ⟨rfl, three_below HB.out (Nat.le_add_right _ 1) _ _ _⟩
set_option maxHeartbeats 4000000 in
set_option maxRecDepth 100000 in
theorem ins_page (a0_0 : Int) (a0_1 : Int) (A0_2 : Option Addr) (c0_2 : Nat) (l0_2 : List (S32)) (a1 : Int) (a2 : ByteArray) (a3 : Int) (w : World) (hr0_2 : Kd.C k32 w A0_2 l0_2.length l0_2) (hc0_2 : l0_2.length ≤ c0_2) (h : valid a0_0 a0_1 l0_2 = true) (hp : decide (1 ≤ a3 ∧ a3 ≤ 16777216) = false) :
    Calls Try.prog 13 #[.agg #[.int .i64 a0_0, .int .i64 a0_1, .slice A0_2 l0_2.length c0_2], .int .i64 a1, .string a2, .int .i64 a3] w fun e w' => e = .returned (.tuple #[.agg #[.int .i64 0, .int .i64 0, .slice none 0 0], .int .i64 1]) ∧ Below w.heap.size w w' := by
  have hu24 := Try.underlying24
  have hu32 := Try.underlying32
  have HR := Aside0.mk hr0_2
  have HC := Aside0.mk hc0_2
  clear hr0_2 hc0_2
  go_enter Try.func13, Try.ntmps13
  go_wp2_with fail
  refine (plain_calls a0_0 a0_1 A0_2 c0_2 l0_2 _ (Kd.C_alloc (Kd.C_alloc HR.out _) _) HC.out).mono ?_
  rintro e w2 ⟨rfl, hb⟩
  obtain ⟨b1, b2, hB, hlt⟩ := two _ _ _ _ hb
  clear hb
  have HB := Aside0.mk hB
  have B1 := Aside0.mk b1
  have B2 := Aside0.mk b2
  have HLT := Aside0.mk hlt
  rw [h]
  have c10 := (blk_cell b1 0).trans rfl
  have c11 := (blk_cell b1 1).trans rfl
  have c12 := (blk_cell b1 2).trans rfl
  have c20 := (blk_cell b2 0).trans rfl
  have c21 := (blk_cell b2 1).trans rfl
  have c22 := (blk_cell b2 2).trans rfl
  have f20 := blk_frozen b2 0
  have f21 := blk_frozen b2 1
  have f22 := blk_frozen b2 2
  clear b1 b2 hB h hlt
  go_wp2_with fail
  refine (ispage_calls a3 _).mono ?_
  rintro e w3 ⟨rfl, hb⟩
  have HB3 := Aside0.mk (below_step HB.out hb)
  have BB1 := Aside0.mk (blk_below B1.out hb)
  have BB2 := Aside0.mk (blk_below B2.out hb)
  have HLT3 := Aside0.mk (Nat.lt_of_lt_of_le HLT.out (below_size hb))
  clear c10 c11 c12 c20 c21 c22 f20 f21 f22 hb B1 B2 HB HLT
  have c10 := (blk_cell BB1.out 0).trans rfl
  have c11 := (blk_cell BB1.out 1).trans rfl
  have c12 := (blk_cell BB1.out 2).trans rfl
  have c20 := (blk_cell BB2.out 0).trans rfl
  have c21 := (blk_cell BB2.out 1).trans rfl
  have c22 := (blk_cell BB2.out 2).trans rfl
  have f20 := blk_frozen BB2.out 0
  have f21 := blk_frozen BB2.out 1
  have f22 := blk_frozen BB2.out 2
  rw [hp]
  clear hp
  go_wp2
  have T := one_stored w3 (w.heap.size + 1) 24 _ _ _ (.int .i64 0) (.int .i64 0) (.slice none 0 0) BB2.out
  refine bodyPost_ret (results_list (rs := [.cell 8 24, .tmp 9]) rfl (by simp) (.cell (w.heap.size + 1) 24 _ (0, 0) _ rfl T hu24 rfl (by kernel_rfl) (.tmp .nil))) rfl ?_
  exact ⟨rfl, three_below HB3.out (Nat.le_add_right _ 1) _ _ _⟩
set_option maxHeartbeats 4000000 in
set_option maxRecDepth 100000 in
theorem ins_neg (a0_0 : Int) (a0_1 : Int) (A0_2 : Option Addr) (c0_2 : Nat) (l0_2 : List (S32)) (a1 : Int) (a2 : ByteArray) (a3 : Int) (w : World) (hr0_2 : Kd.C k32 w A0_2 l0_2.length l0_2) (hc0_2 : l0_2.length ≤ c0_2) (h : valid a0_0 a0_1 l0_2 = true) (hp : decide (1 ≤ a3 ∧ a3 ≤ 16777216) = true) (h1 : decide (a1 < 0) = true) :
    Calls Try.prog 13 #[.agg #[.int .i64 a0_0, .int .i64 a0_1, .slice A0_2 l0_2.length c0_2], .int .i64 a1, .string a2, .int .i64 a3] w fun e w' => e = .returned (.tuple #[.agg #[.int .i64 0, .int .i64 0, .slice none 0 0], .int .i64 1]) ∧ Below w.heap.size w w' := by
  have hu24 := Try.underlying24
  have hu32 := Try.underlying32
  have HR := Aside0.mk hr0_2
  have HC := Aside0.mk hc0_2
  clear hr0_2 hc0_2
  go_enter Try.func13, Try.ntmps13
  go_wp2_with fail
  refine (plain_calls a0_0 a0_1 A0_2 c0_2 l0_2 _ (Kd.C_alloc (Kd.C_alloc HR.out _) _) HC.out).mono ?_
  rintro e w2 ⟨rfl, hb⟩
  obtain ⟨b1, b2, hB, hlt⟩ := two _ _ _ _ hb
  clear hb
  have HB := Aside0.mk hB
  have B1 := Aside0.mk b1
  have B2 := Aside0.mk b2
  have HLT := Aside0.mk hlt
  rw [h]
  have c10 := (blk_cell b1 0).trans rfl
  have c11 := (blk_cell b1 1).trans rfl
  have c12 := (blk_cell b1 2).trans rfl
  have c20 := (blk_cell b2 0).trans rfl
  have c21 := (blk_cell b2 1).trans rfl
  have c22 := (blk_cell b2 2).trans rfl
  have f20 := blk_frozen b2 0
  have f21 := blk_frozen b2 1
  have f22 := blk_frozen b2 2
  clear b1 b2 hB h hlt
  go_wp2_with fail
  refine (ispage_calls a3 _).mono ?_
  rintro e w3 ⟨rfl, hb⟩
  have HB3 := Aside0.mk (below_step HB.out hb)
  have BB1 := Aside0.mk (blk_below B1.out hb)
  have BB2 := Aside0.mk (blk_below B2.out hb)
  have HLT3 := Aside0.mk (Nat.lt_of_lt_of_le HLT.out (below_size hb))
  clear c10 c11 c12 c20 c21 c22 f20 f21 f22 hb B1 B2 HB HLT
  have c10 := (blk_cell BB1.out 0).trans rfl
  have c11 := (blk_cell BB1.out 1).trans rfl
  have c12 := (blk_cell BB1.out 2).trans rfl
  have c20 := (blk_cell BB2.out 0).trans rfl
  have c21 := (blk_cell BB2.out 1).trans rfl
  have c22 := (blk_cell BB2.out 2).trans rfl
  have f20 := blk_frozen BB2.out 0
  have f21 := blk_frozen BB2.out 1
  have f22 := blk_frozen BB2.out 2
  rw [hp]
  clear hp
  go_wp2
  have T := one_stored w3 (w.heap.size + 1) 24 _ _ _ (.int .i64 0) (.int .i64 0) (.slice none 0 0) BB2.out
  refine bodyPost_ret (results_list (rs := [.cell 8 24, .tmp 9]) rfl (by simp) (.cell (w.heap.size + 1) 24 _ (0, 0) _ rfl T hu24 rfl (by kernel_rfl) (.tmp .nil))) rfl ?_
  exact ⟨rfl, three_below HB3.out (Nat.le_add_right _ 1) _ _ _⟩
set_option maxHeartbeats 4000000 in
set_option maxRecDepth 100000 in
theorem ins_over (a0_0 : Int) (a0_1 : Int) (A0_2 : Option Addr) (c0_2 : Nat) (l0_2 : List (S32)) (a1 : Int) (a2 : ByteArray) (a3 : Int) (w : World) (hr0_2 : Kd.C k32 w A0_2 l0_2.length l0_2) (hc0_2 : l0_2.length ≤ c0_2) (h : valid a0_0 a0_1 l0_2 = true) (hp : decide (1 ≤ a3 ∧ a3 ≤ 16777216) = true) (h1 : decide (a1 < 0) = false) (h2 : decide ((l0_2.length : Int) ≤ a1) = true) :
    Calls Try.prog 13 #[.agg #[.int .i64 a0_0, .int .i64 a0_1, .slice A0_2 l0_2.length c0_2], .int .i64 a1, .string a2, .int .i64 a3] w fun e w' => e = .returned (.tuple #[.agg #[.int .i64 0, .int .i64 0, .slice none 0 0], .int .i64 1]) ∧ Below w.heap.size w w' := by
  have hu24 := Try.underlying24
  have hu32 := Try.underlying32
  have HR := Aside0.mk hr0_2
  have HC := Aside0.mk hc0_2
  clear hr0_2 hc0_2
  go_enter Try.func13, Try.ntmps13
  go_wp2_with fail
  refine (plain_calls a0_0 a0_1 A0_2 c0_2 l0_2 _ (Kd.C_alloc (Kd.C_alloc HR.out _) _) HC.out).mono ?_
  rintro e w2 ⟨rfl, hb⟩
  obtain ⟨b1, b2, hB, hlt⟩ := two _ _ _ _ hb
  clear hb
  have HB := Aside0.mk hB
  have B1 := Aside0.mk b1
  have B2 := Aside0.mk b2
  have HLT := Aside0.mk hlt
  rw [h]
  have c10 := (blk_cell b1 0).trans rfl
  have c11 := (blk_cell b1 1).trans rfl
  have c12 := (blk_cell b1 2).trans rfl
  have c20 := (blk_cell b2 0).trans rfl
  have c21 := (blk_cell b2 1).trans rfl
  have c22 := (blk_cell b2 2).trans rfl
  have f20 := blk_frozen b2 0
  have f21 := blk_frozen b2 1
  have f22 := blk_frozen b2 2
  clear b1 b2 hB h hlt
  go_wp2_with fail
  refine (ispage_calls a3 _).mono ?_
  rintro e w3 ⟨rfl, hb⟩
  have HB3 := Aside0.mk (below_step HB.out hb)
  have BB1 := Aside0.mk (blk_below B1.out hb)
  have BB2 := Aside0.mk (blk_below B2.out hb)
  have HLT3 := Aside0.mk (Nat.lt_of_lt_of_le HLT.out (below_size hb))
  clear c10 c11 c12 c20 c21 c22 f20 f21 f22 hb B1 B2 HB HLT
  have c10 := (blk_cell BB1.out 0).trans rfl
  have c11 := (blk_cell BB1.out 1).trans rfl
  have c12 := (blk_cell BB1.out 2).trans rfl
  have c20 := (blk_cell BB2.out 0).trans rfl
  have c21 := (blk_cell BB2.out 1).trans rfl
  have c22 := (blk_cell BB2.out 2).trans rfl
  have f20 := blk_frozen BB2.out 0
  have f21 := blk_frozen BB2.out 1
  have f22 := blk_frozen BB2.out 2
  rw [hp]
  clear hp
  go_wp2
  have T := one_stored w3 (w.heap.size + 1) 24 _ _ _ (.int .i64 0) (.int .i64 0) (.slice none 0 0) BB2.out
  refine bodyPost_ret (results_list (rs := [.cell 8 24, .tmp 9]) rfl (by simp) (.cell (w.heap.size + 1) 24 _ (0, 0) _ rfl T hu24 rfl (by kernel_rfl) (.tmp .nil))) rfl ?_
  exact ⟨rfl, three_below HB3.out (Nat.le_add_right _ 1) _ _ _⟩
set_option maxHeartbeats 4000000 in
set_option maxRecDepth 100000 in
theorem ins_e1 (a0_0 : Int) (a0_1 : Int) (A0_2 : Option Addr) (c0_2 : Nat) (l0_2 : List (S32)) (a1 : Int) (a2 : ByteArray) (a3 : Int) (w : World) (hr0_2 : Kd.C k32 w A0_2 l0_2.length l0_2) (hc0_2 : l0_2.length ≤ c0_2) (h : valid a0_0 a0_1 l0_2 = true) (hp : decide (1 ≤ a3 ∧ a3 ≤ 16777216) = true) (i : Nat) (ha1 : a1 = (i : Int)) (hi : i < l0_2.length) (c : a2.toList.isEmpty = true) :
    Calls Try.prog 13 #[.agg #[.int .i64 a0_0, .int .i64 a0_1, .slice A0_2 l0_2.length c0_2], .int .i64 a1, .string a2, .int .i64 a3] w fun e w' => e = .returned (.tuple #[.agg #[.int .i64 0, .int .i64 0, .slice none 0 0], .int .i64 2]) ∧ Below w.heap.size w w' := by
  subst ha1
  have i0 : (0 : Int) ≤ (i : Int) := by omega
  have i1 : (i : Int) < (l0_2.length : Int) := by omega
  have i2 : decide ((i : Int) < 0) = false := decide_eq_false (by omega)
  have i3 : decide ((l0_2.length : Int) ≤ (i : Int)) = false := decide_eq_false (by omega)
  have hl := hr0_2.2.1
  have hu24 := Try.underlying24
  have hu32 := Try.underlying32
  have HR := Aside0.mk hr0_2
  have HC := Aside0.mk hc0_2
  clear hr0_2 hc0_2
  go_enter Try.func13, Try.ntmps13
  go_wp2_with fail
  refine (plain_calls a0_0 a0_1 A0_2 c0_2 l0_2 _ (Kd.C_alloc (Kd.C_alloc HR.out _) _) HC.out).mono ?_
  rintro e w2 ⟨rfl, hb⟩
  obtain ⟨b1, b2, hB, hlt⟩ := two _ _ _ _ hb
  clear hb
  have HB := Aside0.mk hB
  have B1 := Aside0.mk b1
  have B2 := Aside0.mk b2
  have HLT := Aside0.mk hlt
  rw [h]
  have c10 := (blk_cell b1 0).trans rfl
  have c11 := (blk_cell b1 1).trans rfl
  have c12 := (blk_cell b1 2).trans rfl
  have c20 := (blk_cell b2 0).trans rfl
  have c21 := (blk_cell b2 1).trans rfl
  have c22 := (blk_cell b2 2).trans rfl
  have f20 := blk_frozen b2 0
  have f21 := blk_frozen b2 1
  have f22 := blk_frozen b2 2
  clear b1 b2 hB h hlt
  go_wp2_with fail
  refine (ispage_calls a3 _).mono ?_
  rintro e w3 ⟨rfl, hb⟩
  have HB3 := Aside0.mk (below_step HB.out hb)
  have BB1 := Aside0.mk (blk_below B1.out hb)
  have BB2 := Aside0.mk (blk_below B2.out hb)
  have HLT3 := Aside0.mk (Nat.lt_of_lt_of_le HLT.out (below_size hb))
  clear c10 c11 c12 c20 c21 c22 f20 f21 f22 hb B1 B2 HB HLT
  have c10 := (blk_cell BB1.out 0).trans rfl
  have c11 := (blk_cell BB1.out 1).trans rfl
  have c12 := (blk_cell BB1.out 2).trans rfl
  have c20 := (blk_cell BB2.out 0).trans rfl
  have c21 := (blk_cell BB2.out 1).trans rfl
  have c22 := (blk_cell BB2.out 2).trans rfl
  have f20 := blk_frozen BB2.out 0
  have f21 := blk_frozen BB2.out 1
  have f22 := blk_frozen BB2.out 2
  rw [hp]
  clear hp
  have n10 := World.new_ne w3 _ c10
  have n11 := World.new_ne w3 _ c11
  have n12 := World.new_ne w3 _ c12
  have n20 := World.new_ne w3 _ c20
  have n21 := World.new_ne w3 _ c21
  have n22 := World.new_ne w3 _ c22
  have af0 := blk_frozen (blk_alloc BB2.out (.cells #[.string (en l0_2 i).f0, .int .i64 (en l0_2 i).f1] 32)) 0
  have af1 := blk_frozen (blk_alloc BB2.out (.cells #[.string (en l0_2 i).f0, .int .i64 (en l0_2 i).f1] 32)) 1
  have af2 := blk_frozen (blk_alloc BB2.out (.cells #[.string (en l0_2 i).f0, .int .i64 (en l0_2 i).f1] 32)) 2
  have ac20 : (w3.alloc (.cells #[.string (en l0_2 i).f0, .int .i64 (en l0_2 i).f1] 32)).cell? ⟨w.heap.size + 1, 0, none⟩ = some (.int .i64 0) := (blk_cell (blk_alloc BB2.out (.cells #[.string (en l0_2 i).f0, .int .i64 (en l0_2 i).f1] 32)) 0).trans rfl
  have ac21 : (w3.alloc (.cells #[.string (en l0_2 i).f0, .int .i64 (en l0_2 i).f1] 32)).cell? ⟨w.heap.size + 1, 1, none⟩ = some (.int .i64 0) := (blk_cell (blk_alloc BB2.out (.cells #[.string (en l0_2 i).f0, .int .i64 (en l0_2 i).f1] 32)) 1).trans rfl
  have ac22 : (w3.alloc (.cells #[.string (en l0_2 i).f0, .int .i64 (en l0_2 i).f1] 32)).cell? ⟨w.heap.size + 1, 2, none⟩ = some (.slice none 0 0) := (blk_cell (blk_alloc BB2.out (.cells #[.string (en l0_2 i).f0, .int .i64 (en l0_2 i).f1] 32)) 2).trans rfl
  have ac10 : (w3.alloc (.cells #[.string (en l0_2 i).f0, .int .i64 (en l0_2 i).f1] 32)).cell? ⟨w.heap.size, 0, none⟩ = some (.int .i64 a0_0) := (blk_cell (blk_alloc BB1.out (.cells #[.string (en l0_2 i).f0, .int .i64 (en l0_2 i).f1] 32)) 0).trans rfl
  have ac11 : (w3.alloc (.cells #[.string (en l0_2 i).f0, .int .i64 (en l0_2 i).f1] 32)).cell? ⟨w.heap.size, 1, none⟩ = some (.int .i64 a0_1) := (blk_cell (blk_alloc BB1.out (.cells #[.string (en l0_2 i).f0, .int .i64 (en l0_2 i).f1] 32)) 1).trans rfl
  have ac12 : (w3.alloc (.cells #[.string (en l0_2 i).f0, .int .i64 (en l0_2 i).f1] 32)).cell? ⟨w.heap.size, 2, none⟩ = some (.slice A0_2 l0_2.length c0_2) := (blk_cell (blk_alloc BB1.out (.cells #[.string (en l0_2 i).f0, .int .i64 (en l0_2 i).f1] 32)) 2).trans rfl
  have HR3 := Aside0.mk (Kd.C_below HR.out HB3.out)
  obtain ⟨ad, ea, hx0, hx1⟩ := at_T32 HR3.out (i : Int) i0 i1
  subst ea
  rw [Int.toNat_natCast] at hx0 hx1
  have eo : rd_T32 l0_2 (i : Int) = en l0_2 i := rfl
  rw [eo] at hx0 hx1
  clear eo
  go_wp2
  have T := one_stored (w3.alloc (.cells #[.string (en l0_2 i).f0, .int .i64 (en l0_2 i).f1] 32)) (w.heap.size + 1) 24 _ _ _ (.int .i64 0) (.int .i64 0) (.slice none 0 0) (blk_alloc BB2.out _)
  refine bodyPost_ret (results_list (rs := [.cell 8 24, .tmp 9]) rfl (by simp) (.cell (w.heap.size + 1) 24 _ (0, 0) _ rfl T hu24 rfl (by kernel_rfl) (.tmp .nil))) rfl ?_
  exact ⟨rfl, three_below (below_alloc HB3.out _) (Nat.le_add_right _ 1) _ _ _⟩
set_option maxHeartbeats 4000000 in
set_option maxRecDepth 100000 in
theorem ins_e2 (a0_0 : Int) (a0_1 : Int) (A0_2 : Option Addr) (c0_2 : Nat) (l0_2 : List (S32)) (a1 : Int) (a2 : ByteArray) (a3 : Int) (w : World) (hr0_2 : Kd.C k32 w A0_2 l0_2.length l0_2) (hc0_2 : l0_2.length ≤ c0_2) (h : valid a0_0 a0_1 l0_2 = true) (hp : decide (1 ≤ a3 ∧ a3 ≤ 16777216) = true) (i : Nat) (ha1 : a1 = (i : Int)) (hi : i < l0_2.length) (c : a2.toList.isEmpty = false) (c2 : decide ((32 : Int) < (a2.size : Int)) = true) :
    Calls Try.prog 13 #[.agg #[.int .i64 a0_0, .int .i64 a0_1, .slice A0_2 l0_2.length c0_2], .int .i64 a1, .string a2, .int .i64 a3] w fun e w' => e = .returned (.tuple #[.agg #[.int .i64 0, .int .i64 0, .slice none 0 0], .int .i64 2]) ∧ Below w.heap.size w w' := by
  subst ha1
  have i0 : (0 : Int) ≤ (i : Int) := by omega
  have i1 : (i : Int) < (l0_2.length : Int) := by omega
  have i2 : decide ((i : Int) < 0) = false := decide_eq_false (by omega)
  have i3 : decide ((l0_2.length : Int) ≤ (i : Int)) = false := decide_eq_false (by omega)
  have hl := hr0_2.2.1
  have hu24 := Try.underlying24
  have hu32 := Try.underlying32
  have HR := Aside0.mk hr0_2
  have HC := Aside0.mk hc0_2
  clear hr0_2 hc0_2
  go_enter Try.func13, Try.ntmps13
  go_wp2_with fail
  refine (plain_calls a0_0 a0_1 A0_2 c0_2 l0_2 _ (Kd.C_alloc (Kd.C_alloc HR.out _) _) HC.out).mono ?_
  rintro e w2 ⟨rfl, hb⟩
  obtain ⟨b1, b2, hB, hlt⟩ := two _ _ _ _ hb
  clear hb
  have HB := Aside0.mk hB
  have B1 := Aside0.mk b1
  have B2 := Aside0.mk b2
  have HLT := Aside0.mk hlt
  rw [h]
  have c10 := (blk_cell b1 0).trans rfl
  have c11 := (blk_cell b1 1).trans rfl
  have c12 := (blk_cell b1 2).trans rfl
  have c20 := (blk_cell b2 0).trans rfl
  have c21 := (blk_cell b2 1).trans rfl
  have c22 := (blk_cell b2 2).trans rfl
  have f20 := blk_frozen b2 0
  have f21 := blk_frozen b2 1
  have f22 := blk_frozen b2 2
  clear b1 b2 hB h hlt
  go_wp2_with fail
  refine (ispage_calls a3 _).mono ?_
  rintro e w3 ⟨rfl, hb⟩
  have HB3 := Aside0.mk (below_step HB.out hb)
  have BB1 := Aside0.mk (blk_below B1.out hb)
  have BB2 := Aside0.mk (blk_below B2.out hb)
  have HLT3 := Aside0.mk (Nat.lt_of_lt_of_le HLT.out (below_size hb))
  clear c10 c11 c12 c20 c21 c22 f20 f21 f22 hb B1 B2 HB HLT
  have c10 := (blk_cell BB1.out 0).trans rfl
  have c11 := (blk_cell BB1.out 1).trans rfl
  have c12 := (blk_cell BB1.out 2).trans rfl
  have c20 := (blk_cell BB2.out 0).trans rfl
  have c21 := (blk_cell BB2.out 1).trans rfl
  have c22 := (blk_cell BB2.out 2).trans rfl
  have f20 := blk_frozen BB2.out 0
  have f21 := blk_frozen BB2.out 1
  have f22 := blk_frozen BB2.out 2
  rw [hp]
  clear hp
  have n10 := World.new_ne w3 _ c10
  have n11 := World.new_ne w3 _ c11
  have n12 := World.new_ne w3 _ c12
  have n20 := World.new_ne w3 _ c20
  have n21 := World.new_ne w3 _ c21
  have n22 := World.new_ne w3 _ c22
  have af0 := blk_frozen (blk_alloc BB2.out (.cells #[.string (en l0_2 i).f0, .int .i64 (en l0_2 i).f1] 32)) 0
  have af1 := blk_frozen (blk_alloc BB2.out (.cells #[.string (en l0_2 i).f0, .int .i64 (en l0_2 i).f1] 32)) 1
  have af2 := blk_frozen (blk_alloc BB2.out (.cells #[.string (en l0_2 i).f0, .int .i64 (en l0_2 i).f1] 32)) 2
  have ac20 : (w3.alloc (.cells #[.string (en l0_2 i).f0, .int .i64 (en l0_2 i).f1] 32)).cell? ⟨w.heap.size + 1, 0, none⟩ = some (.int .i64 0) := (blk_cell (blk_alloc BB2.out (.cells #[.string (en l0_2 i).f0, .int .i64 (en l0_2 i).f1] 32)) 0).trans rfl
  have ac21 : (w3.alloc (.cells #[.string (en l0_2 i).f0, .int .i64 (en l0_2 i).f1] 32)).cell? ⟨w.heap.size + 1, 1, none⟩ = some (.int .i64 0) := (blk_cell (blk_alloc BB2.out (.cells #[.string (en l0_2 i).f0, .int .i64 (en l0_2 i).f1] 32)) 1).trans rfl
  have ac22 : (w3.alloc (.cells #[.string (en l0_2 i).f0, .int .i64 (en l0_2 i).f1] 32)).cell? ⟨w.heap.size + 1, 2, none⟩ = some (.slice none 0 0) := (blk_cell (blk_alloc BB2.out (.cells #[.string (en l0_2 i).f0, .int .i64 (en l0_2 i).f1] 32)) 2).trans rfl
  have ac10 : (w3.alloc (.cells #[.string (en l0_2 i).f0, .int .i64 (en l0_2 i).f1] 32)).cell? ⟨w.heap.size, 0, none⟩ = some (.int .i64 a0_0) := (blk_cell (blk_alloc BB1.out (.cells #[.string (en l0_2 i).f0, .int .i64 (en l0_2 i).f1] 32)) 0).trans rfl
  have ac11 : (w3.alloc (.cells #[.string (en l0_2 i).f0, .int .i64 (en l0_2 i).f1] 32)).cell? ⟨w.heap.size, 1, none⟩ = some (.int .i64 a0_1) := (blk_cell (blk_alloc BB1.out (.cells #[.string (en l0_2 i).f0, .int .i64 (en l0_2 i).f1] 32)) 1).trans rfl
  have ac12 : (w3.alloc (.cells #[.string (en l0_2 i).f0, .int .i64 (en l0_2 i).f1] 32)).cell? ⟨w.heap.size, 2, none⟩ = some (.slice A0_2 l0_2.length c0_2) := (blk_cell (blk_alloc BB1.out (.cells #[.string (en l0_2 i).f0, .int .i64 (en l0_2 i).f1] 32)) 2).trans rfl
  have HR3 := Aside0.mk (Kd.C_below HR.out HB3.out)
  obtain ⟨ad, ea, hx0, hx1⟩ := at_T32 HR3.out (i : Int) i0 i1
  subst ea
  rw [Int.toNat_natCast] at hx0 hx1
  have eo : rd_T32 l0_2 (i : Int) = en l0_2 i := rfl
  rw [eo] at hx0 hx1
  clear eo
  go_wp2
  have T := one_stored (w3.alloc (.cells #[.string (en l0_2 i).f0, .int .i64 (en l0_2 i).f1] 32)) (w.heap.size + 1) 24 _ _ _ (.int .i64 0) (.int .i64 0) (.slice none 0 0) (blk_alloc BB2.out _)
  refine bodyPost_ret (results_list (rs := [.cell 8 24, .tmp 9]) rfl (by simp) (.cell (w.heap.size + 1) 24 _ (0, 0) _ rfl T hu24 rfl (by kernel_rfl) (.tmp .nil))) rfl ?_
  exact ⟨rfl, three_below (below_alloc HB3.out _) (Nat.le_add_right _ 1) _ _ _⟩
set_option maxHeartbeats 4000000 in
set_option maxRecDepth 100000 in
theorem ins_e3 (a0_0 : Int) (a0_1 : Int) (A0_2 : Option Addr) (c0_2 : Nat) (l0_2 : List (S32)) (a1 : Int) (a2 : ByteArray) (a3 : Int) (w : World) (hr0_2 : Kd.C k32 w A0_2 l0_2.length l0_2) (hc0_2 : l0_2.length ≤ c0_2) (h : valid a0_0 a0_1 l0_2 = true) (hp : decide (1 ≤ a3 ∧ a3 ≤ 16777216) = true) (i : Nat) (ha1 : a1 = (i : Int)) (hi : i < l0_2.length) (c : a2.toList.isEmpty = false) (c2 : decide ((32 : Int) < (a2.size : Int)) = false) (m : Nat) (hm : i = m + 1) (c3 : Op.bytesLess (en l0_2 m).f0.toList a2.toList = false) :
    Calls Try.prog 13 #[.agg #[.int .i64 a0_0, .int .i64 a0_1, .slice A0_2 l0_2.length c0_2], .int .i64 a1, .string a2, .int .i64 a3] w fun e w' => e = .returned (.tuple #[.agg #[.int .i64 0, .int .i64 0, .slice none 0 0], .int .i64 2]) ∧ Below w.heap.size w w' := by
  subst ha1
  have i0 : (0 : Int) ≤ (i : Int) := by omega
  have i1 : (i : Int) < (l0_2.length : Int) := by omega
  have i2 : decide ((i : Int) < 0) = false := decide_eq_false (by omega)
  have i3 : decide ((l0_2.length : Int) ≤ (i : Int)) = false := decide_eq_false (by omega)
  have hl := hr0_2.2.1
  have m0 : (0 : Int) ≤ (m : Int) := by omega
  have m1 : (m : Int) < (l0_2.length : Int) := by omega
  have hm1 : (i : Int) - 1 = (m : Int) := by omega
  have hm2 : decide ((0 : Int) < (i : Int)) = true := decide_eq_true (by omega)
  have hm3 : (0 < i) = True := eq_true (by omega)
  clear hm
  have hu24 := Try.underlying24
  have hu32 := Try.underlying32
  have HR := Aside0.mk hr0_2
  have HC := Aside0.mk hc0_2
  clear hr0_2 hc0_2
  go_enter Try.func13, Try.ntmps13
  go_wp2_with fail
  refine (plain_calls a0_0 a0_1 A0_2 c0_2 l0_2 _ (Kd.C_alloc (Kd.C_alloc HR.out _) _) HC.out).mono ?_
  rintro e w2 ⟨rfl, hb⟩
  obtain ⟨b1, b2, hB, hlt⟩ := two _ _ _ _ hb
  clear hb
  have HB := Aside0.mk hB
  have B1 := Aside0.mk b1
  have B2 := Aside0.mk b2
  have HLT := Aside0.mk hlt
  rw [h]
  have c10 := (blk_cell b1 0).trans rfl
  have c11 := (blk_cell b1 1).trans rfl
  have c12 := (blk_cell b1 2).trans rfl
  have c20 := (blk_cell b2 0).trans rfl
  have c21 := (blk_cell b2 1).trans rfl
  have c22 := (blk_cell b2 2).trans rfl
  have f20 := blk_frozen b2 0
  have f21 := blk_frozen b2 1
  have f22 := blk_frozen b2 2
  clear b1 b2 hB h hlt
  go_wp2_with fail
  refine (ispage_calls a3 _).mono ?_
  rintro e w3 ⟨rfl, hb⟩
  have HB3 := Aside0.mk (below_step HB.out hb)
  have BB1 := Aside0.mk (blk_below B1.out hb)
  have BB2 := Aside0.mk (blk_below B2.out hb)
  have HLT3 := Aside0.mk (Nat.lt_of_lt_of_le HLT.out (below_size hb))
  clear c10 c11 c12 c20 c21 c22 f20 f21 f22 hb B1 B2 HB HLT
  have c10 := (blk_cell BB1.out 0).trans rfl
  have c11 := (blk_cell BB1.out 1).trans rfl
  have c12 := (blk_cell BB1.out 2).trans rfl
  have c20 := (blk_cell BB2.out 0).trans rfl
  have c21 := (blk_cell BB2.out 1).trans rfl
  have c22 := (blk_cell BB2.out 2).trans rfl
  have f20 := blk_frozen BB2.out 0
  have f21 := blk_frozen BB2.out 1
  have f22 := blk_frozen BB2.out 2
  rw [hp]
  clear hp
  have n10 := World.new_ne w3 _ c10
  have n11 := World.new_ne w3 _ c11
  have n12 := World.new_ne w3 _ c12
  have n20 := World.new_ne w3 _ c20
  have n21 := World.new_ne w3 _ c21
  have n22 := World.new_ne w3 _ c22
  have af0 := blk_frozen (blk_alloc BB2.out (.cells #[.string (en l0_2 i).f0, .int .i64 (en l0_2 i).f1] 32)) 0
  have af1 := blk_frozen (blk_alloc BB2.out (.cells #[.string (en l0_2 i).f0, .int .i64 (en l0_2 i).f1] 32)) 1
  have af2 := blk_frozen (blk_alloc BB2.out (.cells #[.string (en l0_2 i).f0, .int .i64 (en l0_2 i).f1] 32)) 2
  have ac20 : (w3.alloc (.cells #[.string (en l0_2 i).f0, .int .i64 (en l0_2 i).f1] 32)).cell? ⟨w.heap.size + 1, 0, none⟩ = some (.int .i64 0) := (blk_cell (blk_alloc BB2.out (.cells #[.string (en l0_2 i).f0, .int .i64 (en l0_2 i).f1] 32)) 0).trans rfl
  have ac21 : (w3.alloc (.cells #[.string (en l0_2 i).f0, .int .i64 (en l0_2 i).f1] 32)).cell? ⟨w.heap.size + 1, 1, none⟩ = some (.int .i64 0) := (blk_cell (blk_alloc BB2.out (.cells #[.string (en l0_2 i).f0, .int .i64 (en l0_2 i).f1] 32)) 1).trans rfl
  have ac22 : (w3.alloc (.cells #[.string (en l0_2 i).f0, .int .i64 (en l0_2 i).f1] 32)).cell? ⟨w.heap.size + 1, 2, none⟩ = some (.slice none 0 0) := (blk_cell (blk_alloc BB2.out (.cells #[.string (en l0_2 i).f0, .int .i64 (en l0_2 i).f1] 32)) 2).trans rfl
  have ac10 : (w3.alloc (.cells #[.string (en l0_2 i).f0, .int .i64 (en l0_2 i).f1] 32)).cell? ⟨w.heap.size, 0, none⟩ = some (.int .i64 a0_0) := (blk_cell (blk_alloc BB1.out (.cells #[.string (en l0_2 i).f0, .int .i64 (en l0_2 i).f1] 32)) 0).trans rfl
  have ac11 : (w3.alloc (.cells #[.string (en l0_2 i).f0, .int .i64 (en l0_2 i).f1] 32)).cell? ⟨w.heap.size, 1, none⟩ = some (.int .i64 a0_1) := (blk_cell (blk_alloc BB1.out (.cells #[.string (en l0_2 i).f0, .int .i64 (en l0_2 i).f1] 32)) 1).trans rfl
  have ac12 : (w3.alloc (.cells #[.string (en l0_2 i).f0, .int .i64 (en l0_2 i).f1] 32)).cell? ⟨w.heap.size, 2, none⟩ = some (.slice A0_2 l0_2.length c0_2) := (blk_cell (blk_alloc BB1.out (.cells #[.string (en l0_2 i).f0, .int .i64 (en l0_2 i).f1] 32)) 2).trans rfl
  have HR3 := Aside0.mk (Kd.C_below HR.out HB3.out)
  obtain ⟨ad, ea, hx0, hx1⟩ := at_T32 HR3.out (i : Int) i0 i1
  subst ea
  rw [Int.toNat_natCast] at hx0 hx1
  have eo : rd_T32 l0_2 (i : Int) = en l0_2 i := rfl
  rw [eo] at hx0 hx1
  obtain ⟨ad', ea', hy0, hy1⟩ := at_T32 (Kd.C_alloc HR3.out (.cells #[.string (en l0_2 i).f0, .int .i64 (en l0_2 i).f1] 32)) (m : Int) m0 m1
  obtain rfl := Option.some.inj ea'
  rw [Int.toNat_natCast] at hy0 hy1
  have eo' : rd_T32 l0_2 (m : Int) = en l0_2 m := rfl
  rw [eo'] at hy0 hy1
  clear eo'
  clear eo
  go_wp2
  have T := one_stored (w3.alloc (.cells #[.string (en l0_2 i).f0, .int .i64 (en l0_2 i).f1] 32)) (w.heap.size + 1) 24 _ _ _ (.int .i64 0) (.int .i64 0) (.slice none 0 0) (blk_alloc BB2.out _)
  refine bodyPost_ret (results_list (rs := [.cell 8 24, .tmp 9]) rfl (by simp) (.cell (w.heap.size + 1) 24 _ (0, 0) _ rfl T hu24 rfl (by kernel_rfl) (.tmp .nil))) rfl ?_
  exact ⟨rfl, three_below (below_alloc HB3.out _) (Nat.le_add_right _ 1) _ _ _⟩
set_option maxHeartbeats 4000000 in
set_option maxRecDepth 100000 in
theorem ins_e4a (a0_0 : Int) (a0_1 : Int) (A0_2 : Option Addr) (c0_2 : Nat) (l0_2 : List (S32)) (a1 : Int) (a2 : ByteArray) (a3 : Int) (w : World) (hr0_2 : Kd.C k32 w A0_2 l0_2.length l0_2) (hc0_2 : l0_2.length ≤ c0_2) (h : valid a0_0 a0_1 l0_2 = true) (hp : decide (1 ≤ a3 ∧ a3 ≤ 16777216) = true) (i : Nat) (ha1 : a1 = (i : Int)) (hi : i < l0_2.length) (c : a2.toList.isEmpty = false) (c2 : decide ((32 : Int) < (a2.size : Int)) = false) (hi0 : i = 0) (c4 : (en l0_2 i).f0.toList.isEmpty = false) (c5 : Op.bytesLess a2.toList (en l0_2 i).f0.toList = false) :
    Calls Try.prog 13 #[.agg #[.int .i64 a0_0, .int .i64 a0_1, .slice A0_2 l0_2.length c0_2], .int .i64 a1, .string a2, .int .i64 a3] w fun e w' => e = .returned (.tuple #[.agg #[.int .i64 0, .int .i64 0, .slice none 0 0], .int .i64 2]) ∧ Below w.heap.size w w' := by
  subst ha1
  have i0 : (0 : Int) ≤ (i : Int) := by omega
  have i1 : (i : Int) < (l0_2.length : Int) := by omega
  have i2 : decide ((i : Int) < 0) = false := decide_eq_false (by omega)
  have i3 : decide ((l0_2.length : Int) ≤ (i : Int)) = false := decide_eq_false (by omega)
  have hl := hr0_2.2.1
  have hm2 : decide ((0 : Int) < (i : Int)) = false := decide_eq_false (by omega)
  have hm3 : (0 < i) = False := eq_false (by omega)
  clear hi0
  have hu24 := Try.underlying24
  have hu32 := Try.underlying32
  have HR := Aside0.mk hr0_2
  have HC := Aside0.mk hc0_2
  clear hr0_2 hc0_2
  go_enter Try.func13, Try.ntmps13
  go_wp2_with fail
  refine (plain_calls a0_0 a0_1 A0_2 c0_2 l0_2 _ (Kd.C_alloc (Kd.C_alloc HR.out _) _) HC.out).mono ?_
  rintro e w2 ⟨rfl, hb⟩
  obtain ⟨b1, b2, hB, hlt⟩ := two _ _ _ _ hb
  clear hb
  have HB := Aside0.mk hB
  have B1 := Aside0.mk b1
  have B2 := Aside0.mk b2
  have HLT := Aside0.mk hlt
  rw [h]
  have c10 := (blk_cell b1 0).trans rfl
  have c11 := (blk_cell b1 1).trans rfl
  have c12 := (blk_cell b1 2).trans rfl
  have c20 := (blk_cell b2 0).trans rfl
  have c21 := (blk_cell b2 1).trans rfl
  have c22 := (blk_cell b2 2).trans rfl
  have f20 := blk_frozen b2 0
  have f21 := blk_frozen b2 1
  have f22 := blk_frozen b2 2
  clear b1 b2 hB h hlt
  go_wp2_with fail
  refine (ispage_calls a3 _).mono ?_
  rintro e w3 ⟨rfl, hb⟩
  have HB3 := Aside0.mk (below_step HB.out hb)
  have BB1 := Aside0.mk (blk_below B1.out hb)
  have BB2 := Aside0.mk (blk_below B2.out hb)
  have HLT3 := Aside0.mk (Nat.lt_of_lt_of_le HLT.out (below_size hb))
  clear c10 c11 c12 c20 c21 c22 f20 f21 f22 hb B1 B2 HB HLT
  have c10 := (blk_cell BB1.out 0).trans rfl
  have c11 := (blk_cell BB1.out 1).trans rfl
  have c12 := (blk_cell BB1.out 2).trans rfl
  have c20 := (blk_cell BB2.out 0).trans rfl
  have c21 := (blk_cell BB2.out 1).trans rfl
  have c22 := (blk_cell BB2.out 2).trans rfl
  have f20 := blk_frozen BB2.out 0
  have f21 := blk_frozen BB2.out 1
  have f22 := blk_frozen BB2.out 2
  rw [hp]
  clear hp
  have n10 := World.new_ne w3 _ c10
  have n11 := World.new_ne w3 _ c11
  have n12 := World.new_ne w3 _ c12
  have n20 := World.new_ne w3 _ c20
  have n21 := World.new_ne w3 _ c21
  have n22 := World.new_ne w3 _ c22
  have af0 := blk_frozen (blk_alloc BB2.out (.cells #[.string (en l0_2 i).f0, .int .i64 (en l0_2 i).f1] 32)) 0
  have af1 := blk_frozen (blk_alloc BB2.out (.cells #[.string (en l0_2 i).f0, .int .i64 (en l0_2 i).f1] 32)) 1
  have af2 := blk_frozen (blk_alloc BB2.out (.cells #[.string (en l0_2 i).f0, .int .i64 (en l0_2 i).f1] 32)) 2
  have ac20 : (w3.alloc (.cells #[.string (en l0_2 i).f0, .int .i64 (en l0_2 i).f1] 32)).cell? ⟨w.heap.size + 1, 0, none⟩ = some (.int .i64 0) := (blk_cell (blk_alloc BB2.out (.cells #[.string (en l0_2 i).f0, .int .i64 (en l0_2 i).f1] 32)) 0).trans rfl
  have ac21 : (w3.alloc (.cells #[.string (en l0_2 i).f0, .int .i64 (en l0_2 i).f1] 32)).cell? ⟨w.heap.size + 1, 1, none⟩ = some (.int .i64 0) := (blk_cell (blk_alloc BB2.out (.cells #[.string (en l0_2 i).f0, .int .i64 (en l0_2 i).f1] 32)) 1).trans rfl
  have ac22 : (w3.alloc (.cells #[.string (en l0_2 i).f0, .int .i64 (en l0_2 i).f1] 32)).cell? ⟨w.heap.size + 1, 2, none⟩ = some (.slice none 0 0) := (blk_cell (blk_alloc BB2.out (.cells #[.string (en l0_2 i).f0, .int .i64 (en l0_2 i).f1] 32)) 2).trans rfl
  have ac10 : (w3.alloc (.cells #[.string (en l0_2 i).f0, .int .i64 (en l0_2 i).f1] 32)).cell? ⟨w.heap.size, 0, none⟩ = some (.int .i64 a0_0) := (blk_cell (blk_alloc BB1.out (.cells #[.string (en l0_2 i).f0, .int .i64 (en l0_2 i).f1] 32)) 0).trans rfl
  have ac11 : (w3.alloc (.cells #[.string (en l0_2 i).f0, .int .i64 (en l0_2 i).f1] 32)).cell? ⟨w.heap.size, 1, none⟩ = some (.int .i64 a0_1) := (blk_cell (blk_alloc BB1.out (.cells #[.string (en l0_2 i).f0, .int .i64 (en l0_2 i).f1] 32)) 1).trans rfl
  have ac12 : (w3.alloc (.cells #[.string (en l0_2 i).f0, .int .i64 (en l0_2 i).f1] 32)).cell? ⟨w.heap.size, 2, none⟩ = some (.slice A0_2 l0_2.length c0_2) := (blk_cell (blk_alloc BB1.out (.cells #[.string (en l0_2 i).f0, .int .i64 (en l0_2 i).f1] 32)) 2).trans rfl
  have HR3 := Aside0.mk (Kd.C_below HR.out HB3.out)
  obtain ⟨ad, ea, hx0, hx1⟩ := at_T32 HR3.out (i : Int) i0 i1
  subst ea
  rw [Int.toNat_natCast] at hx0 hx1
  have eo : rd_T32 l0_2 (i : Int) = en l0_2 i := rfl
  rw [eo] at hx0 hx1
  clear eo
  go_wp2
  have T := one_stored (w3.alloc (.cells #[.string (en l0_2 i).f0, .int .i64 (en l0_2 i).f1] 32)) (w.heap.size + 1) 24 _ _ _ (.int .i64 0) (.int .i64 0) (.slice none 0 0) (blk_alloc BB2.out _)
  refine bodyPost_ret (results_list (rs := [.cell 8 24, .tmp 9]) rfl (by simp) (.cell (w.heap.size + 1) 24 _ (0, 0) _ rfl T hu24 rfl (by kernel_rfl) (.tmp .nil))) rfl ?_
  exact ⟨rfl, three_below (below_alloc HB3.out _) (Nat.le_add_right _ 1) _ _ _⟩
set_option maxHeartbeats 4000000 in
set_option maxRecDepth 100000 in
theorem ins_e4b (a0_0 : Int) (a0_1 : Int) (A0_2 : Option Addr) (c0_2 : Nat) (l0_2 : List (S32)) (a1 : Int) (a2 : ByteArray) (a3 : Int) (w : World) (hr0_2 : Kd.C k32 w A0_2 l0_2.length l0_2) (hc0_2 : l0_2.length ≤ c0_2) (h : valid a0_0 a0_1 l0_2 = true) (hp : decide (1 ≤ a3 ∧ a3 ≤ 16777216) = true) (i : Nat) (ha1 : a1 = (i : Int)) (hi : i < l0_2.length) (c : a2.toList.isEmpty = false) (c2 : decide ((32 : Int) < (a2.size : Int)) = false) (m : Nat) (hm : i = m + 1) (c3 : Op.bytesLess (en l0_2 m).f0.toList a2.toList = true) (c4 : (en l0_2 i).f0.toList.isEmpty = false) (c5 : Op.bytesLess a2.toList (en l0_2 i).f0.toList = false) :
    Calls Try.prog 13 #[.agg #[.int .i64 a0_0, .int .i64 a0_1, .slice A0_2 l0_2.length c0_2], .int .i64 a1, .string a2, .int .i64 a3] w fun e w' => e = .returned (.tuple #[.agg #[.int .i64 0, .int .i64 0, .slice none 0 0], .int .i64 2]) ∧ Below w.heap.size w w' := by
  subst ha1
  have i0 : (0 : Int) ≤ (i : Int) := by omega
  have i1 : (i : Int) < (l0_2.length : Int) := by omega
  have i2 : decide ((i : Int) < 0) = false := decide_eq_false (by omega)
  have i3 : decide ((l0_2.length : Int) ≤ (i : Int)) = false := decide_eq_false (by omega)
  have hl := hr0_2.2.1
  have m0 : (0 : Int) ≤ (m : Int) := by omega
  have m1 : (m : Int) < (l0_2.length : Int) := by omega
  have hm1 : (i : Int) - 1 = (m : Int) := by omega
  have hm2 : decide ((0 : Int) < (i : Int)) = true := decide_eq_true (by omega)
  have hm3 : (0 < i) = True := eq_true (by omega)
  clear hm
  have hu24 := Try.underlying24
  have hu32 := Try.underlying32
  have HR := Aside0.mk hr0_2
  have HC := Aside0.mk hc0_2
  clear hr0_2 hc0_2
  go_enter Try.func13, Try.ntmps13
  go_wp2_with fail
  refine (plain_calls a0_0 a0_1 A0_2 c0_2 l0_2 _ (Kd.C_alloc (Kd.C_alloc HR.out _) _) HC.out).mono ?_
  rintro e w2 ⟨rfl, hb⟩
  obtain ⟨b1, b2, hB, hlt⟩ := two _ _ _ _ hb
  clear hb
  have HB := Aside0.mk hB
  have B1 := Aside0.mk b1
  have B2 := Aside0.mk b2
  have HLT := Aside0.mk hlt
  rw [h]
  have c10 := (blk_cell b1 0).trans rfl
  have c11 := (blk_cell b1 1).trans rfl
  have c12 := (blk_cell b1 2).trans rfl
  have c20 := (blk_cell b2 0).trans rfl
  have c21 := (blk_cell b2 1).trans rfl
  have c22 := (blk_cell b2 2).trans rfl
  have f20 := blk_frozen b2 0
  have f21 := blk_frozen b2 1
  have f22 := blk_frozen b2 2
  clear b1 b2 hB h hlt
  go_wp2_with fail
  refine (ispage_calls a3 _).mono ?_
  rintro e w3 ⟨rfl, hb⟩
  have HB3 := Aside0.mk (below_step HB.out hb)
  have BB1 := Aside0.mk (blk_below B1.out hb)
  have BB2 := Aside0.mk (blk_below B2.out hb)
  have HLT3 := Aside0.mk (Nat.lt_of_lt_of_le HLT.out (below_size hb))
  clear c10 c11 c12 c20 c21 c22 f20 f21 f22 hb B1 B2 HB HLT
  have c10 := (blk_cell BB1.out 0).trans rfl
  have c11 := (blk_cell BB1.out 1).trans rfl
  have c12 := (blk_cell BB1.out 2).trans rfl
  have c20 := (blk_cell BB2.out 0).trans rfl
  have c21 := (blk_cell BB2.out 1).trans rfl
  have c22 := (blk_cell BB2.out 2).trans rfl
  have f20 := blk_frozen BB2.out 0
  have f21 := blk_frozen BB2.out 1
  have f22 := blk_frozen BB2.out 2
  rw [hp]
  clear hp
  have n10 := World.new_ne w3 _ c10
  have n11 := World.new_ne w3 _ c11
  have n12 := World.new_ne w3 _ c12
  have n20 := World.new_ne w3 _ c20
  have n21 := World.new_ne w3 _ c21
  have n22 := World.new_ne w3 _ c22
  have af0 := blk_frozen (blk_alloc BB2.out (.cells #[.string (en l0_2 i).f0, .int .i64 (en l0_2 i).f1] 32)) 0
  have af1 := blk_frozen (blk_alloc BB2.out (.cells #[.string (en l0_2 i).f0, .int .i64 (en l0_2 i).f1] 32)) 1
  have af2 := blk_frozen (blk_alloc BB2.out (.cells #[.string (en l0_2 i).f0, .int .i64 (en l0_2 i).f1] 32)) 2
  have ac20 : (w3.alloc (.cells #[.string (en l0_2 i).f0, .int .i64 (en l0_2 i).f1] 32)).cell? ⟨w.heap.size + 1, 0, none⟩ = some (.int .i64 0) := (blk_cell (blk_alloc BB2.out (.cells #[.string (en l0_2 i).f0, .int .i64 (en l0_2 i).f1] 32)) 0).trans rfl
  have ac21 : (w3.alloc (.cells #[.string (en l0_2 i).f0, .int .i64 (en l0_2 i).f1] 32)).cell? ⟨w.heap.size + 1, 1, none⟩ = some (.int .i64 0) := (blk_cell (blk_alloc BB2.out (.cells #[.string (en l0_2 i).f0, .int .i64 (en l0_2 i).f1] 32)) 1).trans rfl
  have ac22 : (w3.alloc (.cells #[.string (en l0_2 i).f0, .int .i64 (en l0_2 i).f1] 32)).cell? ⟨w.heap.size + 1, 2, none⟩ = some (.slice none 0 0) := (blk_cell (blk_alloc BB2.out (.cells #[.string (en l0_2 i).f0, .int .i64 (en l0_2 i).f1] 32)) 2).trans rfl
  have ac10 : (w3.alloc (.cells #[.string (en l0_2 i).f0, .int .i64 (en l0_2 i).f1] 32)).cell? ⟨w.heap.size, 0, none⟩ = some (.int .i64 a0_0) := (blk_cell (blk_alloc BB1.out (.cells #[.string (en l0_2 i).f0, .int .i64 (en l0_2 i).f1] 32)) 0).trans rfl
  have ac11 : (w3.alloc (.cells #[.string (en l0_2 i).f0, .int .i64 (en l0_2 i).f1] 32)).cell? ⟨w.heap.size, 1, none⟩ = some (.int .i64 a0_1) := (blk_cell (blk_alloc BB1.out (.cells #[.string (en l0_2 i).f0, .int .i64 (en l0_2 i).f1] 32)) 1).trans rfl
  have ac12 : (w3.alloc (.cells #[.string (en l0_2 i).f0, .int .i64 (en l0_2 i).f1] 32)).cell? ⟨w.heap.size, 2, none⟩ = some (.slice A0_2 l0_2.length c0_2) := (blk_cell (blk_alloc BB1.out (.cells #[.string (en l0_2 i).f0, .int .i64 (en l0_2 i).f1] 32)) 2).trans rfl
  have HR3 := Aside0.mk (Kd.C_below HR.out HB3.out)
  obtain ⟨ad, ea, hx0, hx1⟩ := at_T32 HR3.out (i : Int) i0 i1
  subst ea
  rw [Int.toNat_natCast] at hx0 hx1
  have eo : rd_T32 l0_2 (i : Int) = en l0_2 i := rfl
  rw [eo] at hx0 hx1
  obtain ⟨ad', ea', hy0, hy1⟩ := at_T32 (Kd.C_alloc HR3.out (.cells #[.string (en l0_2 i).f0, .int .i64 (en l0_2 i).f1] 32)) (m : Int) m0 m1
  obtain rfl := Option.some.inj ea'
  rw [Int.toNat_natCast] at hy0 hy1
  have eo' : rd_T32 l0_2 (m : Int) = en l0_2 m := rfl
  rw [eo'] at hy0 hy1
  clear eo'
  clear eo
  go_wp2
  have T := one_stored (w3.alloc (.cells #[.string (en l0_2 i).f0, .int .i64 (en l0_2 i).f1] 32)) (w.heap.size + 1) 24 _ _ _ (.int .i64 0) (.int .i64 0) (.slice none 0 0) (blk_alloc BB2.out _)
  refine bodyPost_ret (results_list (rs := [.cell 8 24, .tmp 9]) rfl (by simp) (.cell (w.heap.size + 1) 24 _ (0, 0) _ rfl T hu24 rfl (by kernel_rfl) (.tmp .nil))) rfl ?_
  exact ⟨rfl, three_below (below_alloc HB3.out _) (Nat.le_add_right _ 1) _ _ _⟩
set_option maxHeartbeats 4000000 in
set_option maxRecDepth 100000 in
theorem ins_f00 (a0_0 : Int) (a0_1 : Int) (A0_2 : Option Addr) (c0_2 : Nat) (l0_2 : List (S32)) (a1 : Int) (a2 : ByteArray) (a3 : Int) (w : World) (hr0_2 : Kd.C k32 w A0_2 l0_2.length l0_2) (hc0_2 : l0_2.length ≤ c0_2) (h : valid a0_0 a0_1 l0_2 = true) (hp : decide (1 ≤ a3 ∧ a3 ≤ 16777216) = true) (i : Nat) (ha1 : a1 = (i : Int)) (hi : i < l0_2.length) (c : a2.toList.isEmpty = false) (c2 : decide ((32 : Int) < (a2.size : Int)) = false) (hi0 : i = 0) (c4 : (en l0_2 i).f0.toList.isEmpty = true) (hfull : l0_2.length = 120) :
    Calls Try.prog 13 #[.agg #[.int .i64 a0_0, .int .i64 a0_1, .slice A0_2 l0_2.length c0_2], .int .i64 a1, .string a2, .int .i64 a3] w fun e w' => e = .returned (.tuple #[.agg #[.int .i64 0, .int .i64 0, .slice none 0 0], .int .i64 8]) ∧ Below w.heap.size w w' := by
  subst ha1
  have i0 : (0 : Int) ≤ (i : Int) := by omega
  have i1 : (i : Int) < (l0_2.length : Int) := by omega
  have i2 : decide ((i : Int) < 0) = false := decide_eq_false (by omega)
  have i3 : decide ((l0_2.length : Int) ≤ (i : Int)) = false := decide_eq_false (by omega)
  have hl := hr0_2.2.1
  have hf : ((l0_2.length : Int) == 120) = true := beq_iff_eq.mpr (by omega)
  have hf2 : (l0_2.length == 120) = true := beq_iff_eq.mpr hfull
  clear hfull
  have hm2 : decide ((0 : Int) < (i : Int)) = false := decide_eq_false (by omega)
  have hm3 : (0 < i) = False := eq_false (by omega)
  clear hi0
  have hu24 := Try.underlying24
  have hu32 := Try.underlying32
  have HR := Aside0.mk hr0_2
  have HC := Aside0.mk hc0_2
  clear hr0_2 hc0_2
  go_enter Try.func13, Try.ntmps13
  go_wp2_with fail
  refine (plain_calls a0_0 a0_1 A0_2 c0_2 l0_2 _ (Kd.C_alloc (Kd.C_alloc HR.out _) _) HC.out).mono ?_
  rintro e w2 ⟨rfl, hb⟩
  obtain ⟨b1, b2, hB, hlt⟩ := two _ _ _ _ hb
  clear hb
  have HB := Aside0.mk hB
  have B1 := Aside0.mk b1
  have B2 := Aside0.mk b2
  have HLT := Aside0.mk hlt
  rw [h]
  have c10 := (blk_cell b1 0).trans rfl
  have c11 := (blk_cell b1 1).trans rfl
  have c12 := (blk_cell b1 2).trans rfl
  have c20 := (blk_cell b2 0).trans rfl
  have c21 := (blk_cell b2 1).trans rfl
  have c22 := (blk_cell b2 2).trans rfl
  have f20 := blk_frozen b2 0
  have f21 := blk_frozen b2 1
  have f22 := blk_frozen b2 2
  clear b1 b2 hB h hlt
  go_wp2_with fail
  refine (ispage_calls a3 _).mono ?_
  rintro e w3 ⟨rfl, hb⟩
  have HB3 := Aside0.mk (below_step HB.out hb)
  have BB1 := Aside0.mk (blk_below B1.out hb)
  have BB2 := Aside0.mk (blk_below B2.out hb)
  have HLT3 := Aside0.mk (Nat.lt_of_lt_of_le HLT.out (below_size hb))
  clear c10 c11 c12 c20 c21 c22 f20 f21 f22 hb B1 B2 HB HLT
  have c10 := (blk_cell BB1.out 0).trans rfl
  have c11 := (blk_cell BB1.out 1).trans rfl
  have c12 := (blk_cell BB1.out 2).trans rfl
  have c20 := (blk_cell BB2.out 0).trans rfl
  have c21 := (blk_cell BB2.out 1).trans rfl
  have c22 := (blk_cell BB2.out 2).trans rfl
  have f20 := blk_frozen BB2.out 0
  have f21 := blk_frozen BB2.out 1
  have f22 := blk_frozen BB2.out 2
  rw [hp]
  clear hp
  have n10 := World.new_ne w3 _ c10
  have n11 := World.new_ne w3 _ c11
  have n12 := World.new_ne w3 _ c12
  have n20 := World.new_ne w3 _ c20
  have n21 := World.new_ne w3 _ c21
  have n22 := World.new_ne w3 _ c22
  have af0 := blk_frozen (blk_alloc BB2.out (.cells #[.string (en l0_2 i).f0, .int .i64 (en l0_2 i).f1] 32)) 0
  have af1 := blk_frozen (blk_alloc BB2.out (.cells #[.string (en l0_2 i).f0, .int .i64 (en l0_2 i).f1] 32)) 1
  have af2 := blk_frozen (blk_alloc BB2.out (.cells #[.string (en l0_2 i).f0, .int .i64 (en l0_2 i).f1] 32)) 2
  have ac20 : (w3.alloc (.cells #[.string (en l0_2 i).f0, .int .i64 (en l0_2 i).f1] 32)).cell? ⟨w.heap.size + 1, 0, none⟩ = some (.int .i64 0) := (blk_cell (blk_alloc BB2.out (.cells #[.string (en l0_2 i).f0, .int .i64 (en l0_2 i).f1] 32)) 0).trans rfl
  have ac21 : (w3.alloc (.cells #[.string (en l0_2 i).f0, .int .i64 (en l0_2 i).f1] 32)).cell? ⟨w.heap.size + 1, 1, none⟩ = some (.int .i64 0) := (blk_cell (blk_alloc BB2.out (.cells #[.string (en l0_2 i).f0, .int .i64 (en l0_2 i).f1] 32)) 1).trans rfl
  have ac22 : (w3.alloc (.cells #[.string (en l0_2 i).f0, .int .i64 (en l0_2 i).f1] 32)).cell? ⟨w.heap.size + 1, 2, none⟩ = some (.slice none 0 0) := (blk_cell (blk_alloc BB2.out (.cells #[.string (en l0_2 i).f0, .int .i64 (en l0_2 i).f1] 32)) 2).trans rfl
  have ac10 : (w3.alloc (.cells #[.string (en l0_2 i).f0, .int .i64 (en l0_2 i).f1] 32)).cell? ⟨w.heap.size, 0, none⟩ = some (.int .i64 a0_0) := (blk_cell (blk_alloc BB1.out (.cells #[.string (en l0_2 i).f0, .int .i64 (en l0_2 i).f1] 32)) 0).trans rfl
  have ac11 : (w3.alloc (.cells #[.string (en l0_2 i).f0, .int .i64 (en l0_2 i).f1] 32)).cell? ⟨w.heap.size, 1, none⟩ = some (.int .i64 a0_1) := (blk_cell (blk_alloc BB1.out (.cells #[.string (en l0_2 i).f0, .int .i64 (en l0_2 i).f1] 32)) 1).trans rfl
  have ac12 : (w3.alloc (.cells #[.string (en l0_2 i).f0, .int .i64 (en l0_2 i).f1] 32)).cell? ⟨w.heap.size, 2, none⟩ = some (.slice A0_2 l0_2.length c0_2) := (blk_cell (blk_alloc BB1.out (.cells #[.string (en l0_2 i).f0, .int .i64 (en l0_2 i).f1] 32)) 2).trans rfl
  have HR3 := Aside0.mk (Kd.C_below HR.out HB3.out)
  obtain ⟨ad, ea, hx0, hx1⟩ := at_T32 HR3.out (i : Int) i0 i1
  subst ea
  rw [Int.toNat_natCast] at hx0 hx1
  have eo : rd_T32 l0_2 (i : Int) = en l0_2 i := rfl
  rw [eo] at hx0 hx1
  clear eo
  go_wp2
  have T := one_stored (w3.alloc (.cells #[.string (en l0_2 i).f0, .int .i64 (en l0_2 i).f1] 32)) (w.heap.size + 1) 24 _ _ _ (.int .i64 0) (.int .i64 0) (.slice none 0 0) (blk_alloc BB2.out _)
  refine bodyPost_ret (results_list (rs := [.cell 8 24, .tmp 9]) rfl (by simp) (.cell (w.heap.size + 1) 24 _ (0, 0) _ rfl T hu24 rfl (by kernel_rfl) (.tmp .nil))) rfl ?_
  exact ⟨rfl, three_below (below_alloc HB3.out _) (Nat.le_add_right _ 1) _ _ _⟩
set_option maxHeartbeats 4000000 in
set_option maxRecDepth 100000 in
theorem ins_f01 (a0_0 : Int) (a0_1 : Int) (A0_2 : Option Addr) (c0_2 : Nat) (l0_2 : List (S32)) (a1 : Int) (a2 : ByteArray) (a3 : Int) (w : World) (hr0_2 : Kd.C k32 w A0_2 l0_2.length l0_2) (hc0_2 : l0_2.length ≤ c0_2) (h : valid a0_0 a0_1 l0_2 = true) (hp : decide (1 ≤ a3 ∧ a3 ≤ 16777216) = true) (i : Nat) (ha1 : a1 = (i : Int)) (hi : i < l0_2.length) (c : a2.toList.isEmpty = false) (c2 : decide ((32 : Int) < (a2.size : Int)) = false) (hi0 : i = 0) (c4 : (en l0_2 i).f0.toList.isEmpty = false) (c5 : Op.bytesLess a2.toList (en l0_2 i).f0.toList = true) (hfull : l0_2.length = 120) :
    Calls Try.prog 13 #[.agg #[.int .i64 a0_0, .int .i64 a0_1, .slice A0_2 l0_2.length c0_2], .int .i64 a1, .string a2, .int .i64 a3] w fun e w' => e = .returned (.tuple #[.agg #[.int .i64 0, .int .i64 0, .slice none 0 0], .int .i64 8]) ∧ Below w.heap.size w w' := by
  subst ha1
  have i0 : (0 : Int) ≤ (i : Int) := by omega
  have i1 : (i : Int) < (l0_2.length : Int) := by omega
  have i2 : decide ((i : Int) < 0) = false := decide_eq_false (by omega)
  have i3 : decide ((l0_2.length : Int) ≤ (i : Int)) = false := decide_eq_false (by omega)
  have hl := hr0_2.2.1
  have hf : ((l0_2.length : Int) == 120) = true := beq_iff_eq.mpr (by omega)
  have hf2 : (l0_2.length == 120) = true := beq_iff_eq.mpr hfull
  clear hfull
  have hm2 : decide ((0 : Int) < (i : Int)) = false := decide_eq_false (by omega)
  have hm3 : (0 < i) = False := eq_false (by omega)
  clear hi0
  have hu24 := Try.underlying24
  have hu32 := Try.underlying32
  have HR := Aside0.mk hr0_2
  have HC := Aside0.mk hc0_2
  clear hr0_2 hc0_2
  go_enter Try.func13, Try.ntmps13
  go_wp2_with fail
  refine (plain_calls a0_0 a0_1 A0_2 c0_2 l0_2 _ (Kd.C_alloc (Kd.C_alloc HR.out _) _) HC.out).mono ?_
  rintro e w2 ⟨rfl, hb⟩
  obtain ⟨b1, b2, hB, hlt⟩ := two _ _ _ _ hb
  clear hb
  have HB := Aside0.mk hB
  have B1 := Aside0.mk b1
  have B2 := Aside0.mk b2
  have HLT := Aside0.mk hlt
  rw [h]
  have c10 := (blk_cell b1 0).trans rfl
  have c11 := (blk_cell b1 1).trans rfl
  have c12 := (blk_cell b1 2).trans rfl
  have c20 := (blk_cell b2 0).trans rfl
  have c21 := (blk_cell b2 1).trans rfl
  have c22 := (blk_cell b2 2).trans rfl
  have f20 := blk_frozen b2 0
  have f21 := blk_frozen b2 1
  have f22 := blk_frozen b2 2
  clear b1 b2 hB h hlt
  go_wp2_with fail
  refine (ispage_calls a3 _).mono ?_
  rintro e w3 ⟨rfl, hb⟩
  have HB3 := Aside0.mk (below_step HB.out hb)
  have BB1 := Aside0.mk (blk_below B1.out hb)
  have BB2 := Aside0.mk (blk_below B2.out hb)
  have HLT3 := Aside0.mk (Nat.lt_of_lt_of_le HLT.out (below_size hb))
  clear c10 c11 c12 c20 c21 c22 f20 f21 f22 hb B1 B2 HB HLT
  have c10 := (blk_cell BB1.out 0).trans rfl
  have c11 := (blk_cell BB1.out 1).trans rfl
  have c12 := (blk_cell BB1.out 2).trans rfl
  have c20 := (blk_cell BB2.out 0).trans rfl
  have c21 := (blk_cell BB2.out 1).trans rfl
  have c22 := (blk_cell BB2.out 2).trans rfl
  have f20 := blk_frozen BB2.out 0
  have f21 := blk_frozen BB2.out 1
  have f22 := blk_frozen BB2.out 2
  rw [hp]
  clear hp
  have n10 := World.new_ne w3 _ c10
  have n11 := World.new_ne w3 _ c11
  have n12 := World.new_ne w3 _ c12
  have n20 := World.new_ne w3 _ c20
  have n21 := World.new_ne w3 _ c21
  have n22 := World.new_ne w3 _ c22
  have af0 := blk_frozen (blk_alloc BB2.out (.cells #[.string (en l0_2 i).f0, .int .i64 (en l0_2 i).f1] 32)) 0
  have af1 := blk_frozen (blk_alloc BB2.out (.cells #[.string (en l0_2 i).f0, .int .i64 (en l0_2 i).f1] 32)) 1
  have af2 := blk_frozen (blk_alloc BB2.out (.cells #[.string (en l0_2 i).f0, .int .i64 (en l0_2 i).f1] 32)) 2
  have ac20 : (w3.alloc (.cells #[.string (en l0_2 i).f0, .int .i64 (en l0_2 i).f1] 32)).cell? ⟨w.heap.size + 1, 0, none⟩ = some (.int .i64 0) := (blk_cell (blk_alloc BB2.out (.cells #[.string (en l0_2 i).f0, .int .i64 (en l0_2 i).f1] 32)) 0).trans rfl
  have ac21 : (w3.alloc (.cells #[.string (en l0_2 i).f0, .int .i64 (en l0_2 i).f1] 32)).cell? ⟨w.heap.size + 1, 1, none⟩ = some (.int .i64 0) := (blk_cell (blk_alloc BB2.out (.cells #[.string (en l0_2 i).f0, .int .i64 (en l0_2 i).f1] 32)) 1).trans rfl
  have ac22 : (w3.alloc (.cells #[.string (en l0_2 i).f0, .int .i64 (en l0_2 i).f1] 32)).cell? ⟨w.heap.size + 1, 2, none⟩ = some (.slice none 0 0) := (blk_cell (blk_alloc BB2.out (.cells #[.string (en l0_2 i).f0, .int .i64 (en l0_2 i).f1] 32)) 2).trans rfl
  have ac10 : (w3.alloc (.cells #[.string (en l0_2 i).f0, .int .i64 (en l0_2 i).f1] 32)).cell? ⟨w.heap.size, 0, none⟩ = some (.int .i64 a0_0) := (blk_cell (blk_alloc BB1.out (.cells #[.string (en l0_2 i).f0, .int .i64 (en l0_2 i).f1] 32)) 0).trans rfl
  have ac11 : (w3.alloc (.cells #[.string (en l0_2 i).f0, .int .i64 (en l0_2 i).f1] 32)).cell? ⟨w.heap.size, 1, none⟩ = some (.int .i64 a0_1) := (blk_cell (blk_alloc BB1.out (.cells #[.string (en l0_2 i).f0, .int .i64 (en l0_2 i).f1] 32)) 1).trans rfl
  have ac12 : (w3.alloc (.cells #[.string (en l0_2 i).f0, .int .i64 (en l0_2 i).f1] 32)).cell? ⟨w.heap.size, 2, none⟩ = some (.slice A0_2 l0_2.length c0_2) := (blk_cell (blk_alloc BB1.out (.cells #[.string (en l0_2 i).f0, .int .i64 (en l0_2 i).f1] 32)) 2).trans rfl
  have HR3 := Aside0.mk (Kd.C_below HR.out HB3.out)
  obtain ⟨ad, ea, hx0, hx1⟩ := at_T32 HR3.out (i : Int) i0 i1
  subst ea
  rw [Int.toNat_natCast] at hx0 hx1
  have eo : rd_T32 l0_2 (i : Int) = en l0_2 i := rfl
  rw [eo] at hx0 hx1
  clear eo
  go_wp2
  have T := one_stored (w3.alloc (.cells #[.string (en l0_2 i).f0, .int .i64 (en l0_2 i).f1] 32)) (w.heap.size + 1) 24 _ _ _ (.int .i64 0) (.int .i64 0) (.slice none 0 0) (blk_alloc BB2.out _)
  refine bodyPost_ret (results_list (rs := [.cell 8 24, .tmp 9]) rfl (by simp) (.cell (w.heap.size + 1) 24 _ (0, 0) _ rfl T hu24 rfl (by kernel_rfl) (.tmp .nil))) rfl ?_
  exact ⟨rfl, three_below (below_alloc HB3.out _) (Nat.le_add_right _ 1) _ _ _⟩
set_option maxHeartbeats 4000000 in
set_option maxRecDepth 100000 in
theorem ins_f10 (a0_0 : Int) (a0_1 : Int) (A0_2 : Option Addr) (c0_2 : Nat) (l0_2 : List (S32)) (a1 : Int) (a2 : ByteArray) (a3 : Int) (w : World) (hr0_2 : Kd.C k32 w A0_2 l0_2.length l0_2) (hc0_2 : l0_2.length ≤ c0_2) (h : valid a0_0 a0_1 l0_2 = true) (hp : decide (1 ≤ a3 ∧ a3 ≤ 16777216) = true) (i : Nat) (ha1 : a1 = (i : Int)) (hi : i < l0_2.length) (c : a2.toList.isEmpty = false) (c2 : decide ((32 : Int) < (a2.size : Int)) = false) (m : Nat) (hm : i = m + 1) (c3 : Op.bytesLess (en l0_2 m).f0.toList a2.toList = true) (c4 : (en l0_2 i).f0.toList.isEmpty = true) (hfull : l0_2.length = 120) :
    Calls Try.prog 13 #[.agg #[.int .i64 a0_0, .int .i64 a0_1, .slice A0_2 l0_2.length c0_2], .int .i64 a1, .string a2, .int .i64 a3] w fun e w' => e = .returned (.tuple #[.agg #[.int .i64 0, .int .i64 0, .slice none 0 0], .int .i64 8]) ∧ Below w.heap.size w w' := by
  subst ha1
  have i0 : (0 : Int) ≤ (i : Int) := by omega
  have i1 : (i : Int) < (l0_2.length : Int) := by omega
  have i2 : decide ((i : Int) < 0) = false := decide_eq_false (by omega)
  have i3 : decide ((l0_2.length : Int) ≤ (i : Int)) = false := decide_eq_false (by omega)
  have hl := hr0_2.2.1
  have hf : ((l0_2.length : Int) == 120) = true := beq_iff_eq.mpr (by omega)
  have hf2 : (l0_2.length == 120) = true := beq_iff_eq.mpr hfull
  clear hfull
  have m0 : (0 : Int) ≤ (m : Int) := by omega
  have m1 : (m : Int) < (l0_2.length : Int) := by omega
  have hm1 : (i : Int) - 1 = (m : Int) := by omega
  have hm2 : decide ((0 : Int) < (i : Int)) = true := decide_eq_true (by omega)
  have hm3 : (0 < i) = True := eq_true (by omega)
  clear hm
  have hu24 := Try.underlying24
  have hu32 := Try.underlying32
  have HR := Aside0.mk hr0_2
  have HC := Aside0.mk hc0_2
  clear hr0_2 hc0_2
  go_enter Try.func13, Try.ntmps13
  go_wp2_with fail
  refine (plain_calls a0_0 a0_1 A0_2 c0_2 l0_2 _ (Kd.C_alloc (Kd.C_alloc HR.out _) _) HC.out).mono ?_
  rintro e w2 ⟨rfl, hb⟩
  obtain ⟨b1, b2, hB, hlt⟩ := two _ _ _ _ hb
  clear hb
  have HB := Aside0.mk hB
  have B1 := Aside0.mk b1
  have B2 := Aside0.mk b2
  have HLT := Aside0.mk hlt
  rw [h]
  have c10 := (blk_cell b1 0).trans rfl
  have c11 := (blk_cell b1 1).trans rfl
  have c12 := (blk_cell b1 2).trans rfl
  have c20 := (blk_cell b2 0).trans rfl
  have c21 := (blk_cell b2 1).trans rfl
  have c22 := (blk_cell b2 2).trans rfl
  have f20 := blk_frozen b2 0
  have f21 := blk_frozen b2 1
  have f22 := blk_frozen b2 2
  clear b1 b2 hB h hlt
  go_wp2_with fail
  refine (ispage_calls a3 _).mono ?_
  rintro e w3 ⟨rfl, hb⟩
  have HB3 := Aside0.mk (below_step HB.out hb)
  have BB1 := Aside0.mk (blk_below B1.out hb)
  have BB2 := Aside0.mk (blk_below B2.out hb)
  have HLT3 := Aside0.mk (Nat.lt_of_lt_of_le HLT.out (below_size hb))
  clear c10 c11 c12 c20 c21 c22 f20 f21 f22 hb B1 B2 HB HLT
  have c10 := (blk_cell BB1.out 0).trans rfl
  have c11 := (blk_cell BB1.out 1).trans rfl
  have c12 := (blk_cell BB1.out 2).trans rfl
  have c20 := (blk_cell BB2.out 0).trans rfl
  have c21 := (blk_cell BB2.out 1).trans rfl
  have c22 := (blk_cell BB2.out 2).trans rfl
  have f20 := blk_frozen BB2.out 0
  have f21 := blk_frozen BB2.out 1
  have f22 := blk_frozen BB2.out 2
  rw [hp]
  clear hp
  have n10 := World.new_ne w3 _ c10
  have n11 := World.new_ne w3 _ c11
  have n12 := World.new_ne w3 _ c12
  have n20 := World.new_ne w3 _ c20
  have n21 := World.new_ne w3 _ c21
  have n22 := World.new_ne w3 _ c22
  have af0 := blk_frozen (blk_alloc BB2.out (.cells #[.string (en l0_2 i).f0, .int .i64 (en l0_2 i).f1] 32)) 0
  have af1 := blk_frozen (blk_alloc BB2.out (.cells #[.string (en l0_2 i).f0, .int .i64 (en l0_2 i).f1] 32)) 1
  have af2 := blk_frozen (blk_alloc BB2.out (.cells #[.string (en l0_2 i).f0, .int .i64 (en l0_2 i).f1] 32)) 2
  have ac20 : (w3.alloc (.cells #[.string (en l0_2 i).f0, .int .i64 (en l0_2 i).f1] 32)).cell? ⟨w.heap.size + 1, 0, none⟩ = some (.int .i64 0) := (blk_cell (blk_alloc BB2.out (.cells #[.string (en l0_2 i).f0, .int .i64 (en l0_2 i).f1] 32)) 0).trans rfl
  have ac21 : (w3.alloc (.cells #[.string (en l0_2 i).f0, .int .i64 (en l0_2 i).f1] 32)).cell? ⟨w.heap.size + 1, 1, none⟩ = some (.int .i64 0) := (blk_cell (blk_alloc BB2.out (.cells #[.string (en l0_2 i).f0, .int .i64 (en l0_2 i).f1] 32)) 1).trans rfl
  have ac22 : (w3.alloc (.cells #[.string (en l0_2 i).f0, .int .i64 (en l0_2 i).f1] 32)).cell? ⟨w.heap.size + 1, 2, none⟩ = some (.slice none 0 0) := (blk_cell (blk_alloc BB2.out (.cells #[.string (en l0_2 i).f0, .int .i64 (en l0_2 i).f1] 32)) 2).trans rfl
  have ac10 : (w3.alloc (.cells #[.string (en l0_2 i).f0, .int .i64 (en l0_2 i).f1] 32)).cell? ⟨w.heap.size, 0, none⟩ = some (.int .i64 a0_0) := (blk_cell (blk_alloc BB1.out (.cells #[.string (en l0_2 i).f0, .int .i64 (en l0_2 i).f1] 32)) 0).trans rfl
  have ac11 : (w3.alloc (.cells #[.string (en l0_2 i).f0, .int .i64 (en l0_2 i).f1] 32)).cell? ⟨w.heap.size, 1, none⟩ = some (.int .i64 a0_1) := (blk_cell (blk_alloc BB1.out (.cells #[.string (en l0_2 i).f0, .int .i64 (en l0_2 i).f1] 32)) 1).trans rfl
  have ac12 : (w3.alloc (.cells #[.string (en l0_2 i).f0, .int .i64 (en l0_2 i).f1] 32)).cell? ⟨w.heap.size, 2, none⟩ = some (.slice A0_2 l0_2.length c0_2) := (blk_cell (blk_alloc BB1.out (.cells #[.string (en l0_2 i).f0, .int .i64 (en l0_2 i).f1] 32)) 2).trans rfl
  have HR3 := Aside0.mk (Kd.C_below HR.out HB3.out)
  obtain ⟨ad, ea, hx0, hx1⟩ := at_T32 HR3.out (i : Int) i0 i1
  subst ea
  rw [Int.toNat_natCast] at hx0 hx1
  have eo : rd_T32 l0_2 (i : Int) = en l0_2 i := rfl
  rw [eo] at hx0 hx1
  obtain ⟨ad', ea', hy0, hy1⟩ := at_T32 (Kd.C_alloc HR3.out (.cells #[.string (en l0_2 i).f0, .int .i64 (en l0_2 i).f1] 32)) (m : Int) m0 m1
  obtain rfl := Option.some.inj ea'
  rw [Int.toNat_natCast] at hy0 hy1
  have eo' : rd_T32 l0_2 (m : Int) = en l0_2 m := rfl
  rw [eo'] at hy0 hy1
  clear eo'
  clear eo
  go_wp2
  have T := one_stored (w3.alloc (.cells #[.string (en l0_2 i).f0, .int .i64 (en l0_2 i).f1] 32)) (w.heap.size + 1) 24 _ _ _ (.int .i64 0) (.int .i64 0) (.slice none 0 0) (blk_alloc BB2.out _)
  refine bodyPost_ret (results_list (rs := [.cell 8 24, .tmp 9]) rfl (by simp) (.cell (w.heap.size + 1) 24 _ (0, 0) _ rfl T hu24 rfl (by kernel_rfl) (.tmp .nil))) rfl ?_
  exact ⟨rfl, three_below (below_alloc HB3.out _) (Nat.le_add_right _ 1) _ _ _⟩
set_option maxHeartbeats 4000000 in
set_option maxRecDepth 100000 in
theorem ins_f11 (a0_0 : Int) (a0_1 : Int) (A0_2 : Option Addr) (c0_2 : Nat) (l0_2 : List (S32)) (a1 : Int) (a2 : ByteArray) (a3 : Int) (w : World) (hr0_2 : Kd.C k32 w A0_2 l0_2.length l0_2) (hc0_2 : l0_2.length ≤ c0_2) (h : valid a0_0 a0_1 l0_2 = true) (hp : decide (1 ≤ a3 ∧ a3 ≤ 16777216) = true) (i : Nat) (ha1 : a1 = (i : Int)) (hi : i < l0_2.length) (c : a2.toList.isEmpty = false) (c2 : decide ((32 : Int) < (a2.size : Int)) = false) (m : Nat) (hm : i = m + 1) (c3 : Op.bytesLess (en l0_2 m).f0.toList a2.toList = true) (c4 : (en l0_2 i).f0.toList.isEmpty = false) (c5 : Op.bytesLess a2.toList (en l0_2 i).f0.toList = true) (hfull : l0_2.length = 120) :
    Calls Try.prog 13 #[.agg #[.int .i64 a0_0, .int .i64 a0_1, .slice A0_2 l0_2.length c0_2], .int .i64 a1, .string a2, .int .i64 a3] w fun e w' => e = .returned (.tuple #[.agg #[.int .i64 0, .int .i64 0, .slice none 0 0], .int .i64 8]) ∧ Below w.heap.size w w' := by
  subst ha1
  have i0 : (0 : Int) ≤ (i : Int) := by omega
  have i1 : (i : Int) < (l0_2.length : Int) := by omega
  have i2 : decide ((i : Int) < 0) = false := decide_eq_false (by omega)
  have i3 : decide ((l0_2.length : Int) ≤ (i : Int)) = false := decide_eq_false (by omega)
  have hl := hr0_2.2.1
  have hf : ((l0_2.length : Int) == 120) = true := beq_iff_eq.mpr (by omega)
  have hf2 : (l0_2.length == 120) = true := beq_iff_eq.mpr hfull
  clear hfull
  have m0 : (0 : Int) ≤ (m : Int) := by omega
  have m1 : (m : Int) < (l0_2.length : Int) := by omega
  have hm1 : (i : Int) - 1 = (m : Int) := by omega
  have hm2 : decide ((0 : Int) < (i : Int)) = true := decide_eq_true (by omega)
  have hm3 : (0 < i) = True := eq_true (by omega)
  clear hm
  have hu24 := Try.underlying24
  have hu32 := Try.underlying32
  have HR := Aside0.mk hr0_2
  have HC := Aside0.mk hc0_2
  clear hr0_2 hc0_2
  go_enter Try.func13, Try.ntmps13
  go_wp2_with fail
  refine (plain_calls a0_0 a0_1 A0_2 c0_2 l0_2 _ (Kd.C_alloc (Kd.C_alloc HR.out _) _) HC.out).mono ?_
  rintro e w2 ⟨rfl, hb⟩
  obtain ⟨b1, b2, hB, hlt⟩ := two _ _ _ _ hb
  clear hb
  have HB := Aside0.mk hB
  have B1 := Aside0.mk b1
  have B2 := Aside0.mk b2
  have HLT := Aside0.mk hlt
  rw [h]
  have c10 := (blk_cell b1 0).trans rfl
  have c11 := (blk_cell b1 1).trans rfl
  have c12 := (blk_cell b1 2).trans rfl
  have c20 := (blk_cell b2 0).trans rfl
  have c21 := (blk_cell b2 1).trans rfl
  have c22 := (blk_cell b2 2).trans rfl
  have f20 := blk_frozen b2 0
  have f21 := blk_frozen b2 1
  have f22 := blk_frozen b2 2
  clear b1 b2 hB h hlt
  go_wp2_with fail
  refine (ispage_calls a3 _).mono ?_
  rintro e w3 ⟨rfl, hb⟩
  have HB3 := Aside0.mk (below_step HB.out hb)
  have BB1 := Aside0.mk (blk_below B1.out hb)
  have BB2 := Aside0.mk (blk_below B2.out hb)
  have HLT3 := Aside0.mk (Nat.lt_of_lt_of_le HLT.out (below_size hb))
  clear c10 c11 c12 c20 c21 c22 f20 f21 f22 hb B1 B2 HB HLT
  have c10 := (blk_cell BB1.out 0).trans rfl
  have c11 := (blk_cell BB1.out 1).trans rfl
  have c12 := (blk_cell BB1.out 2).trans rfl
  have c20 := (blk_cell BB2.out 0).trans rfl
  have c21 := (blk_cell BB2.out 1).trans rfl
  have c22 := (blk_cell BB2.out 2).trans rfl
  have f20 := blk_frozen BB2.out 0
  have f21 := blk_frozen BB2.out 1
  have f22 := blk_frozen BB2.out 2
  rw [hp]
  clear hp
  have n10 := World.new_ne w3 _ c10
  have n11 := World.new_ne w3 _ c11
  have n12 := World.new_ne w3 _ c12
  have n20 := World.new_ne w3 _ c20
  have n21 := World.new_ne w3 _ c21
  have n22 := World.new_ne w3 _ c22
  have af0 := blk_frozen (blk_alloc BB2.out (.cells #[.string (en l0_2 i).f0, .int .i64 (en l0_2 i).f1] 32)) 0
  have af1 := blk_frozen (blk_alloc BB2.out (.cells #[.string (en l0_2 i).f0, .int .i64 (en l0_2 i).f1] 32)) 1
  have af2 := blk_frozen (blk_alloc BB2.out (.cells #[.string (en l0_2 i).f0, .int .i64 (en l0_2 i).f1] 32)) 2
  have ac20 : (w3.alloc (.cells #[.string (en l0_2 i).f0, .int .i64 (en l0_2 i).f1] 32)).cell? ⟨w.heap.size + 1, 0, none⟩ = some (.int .i64 0) := (blk_cell (blk_alloc BB2.out (.cells #[.string (en l0_2 i).f0, .int .i64 (en l0_2 i).f1] 32)) 0).trans rfl
  have ac21 : (w3.alloc (.cells #[.string (en l0_2 i).f0, .int .i64 (en l0_2 i).f1] 32)).cell? ⟨w.heap.size + 1, 1, none⟩ = some (.int .i64 0) := (blk_cell (blk_alloc BB2.out (.cells #[.string (en l0_2 i).f0, .int .i64 (en l0_2 i).f1] 32)) 1).trans rfl
  have ac22 : (w3.alloc (.cells #[.string (en l0_2 i).f0, .int .i64 (en l0_2 i).f1] 32)).cell? ⟨w.heap.size + 1, 2, none⟩ = some (.slice none 0 0) := (blk_cell (blk_alloc BB2.out (.cells #[.string (en l0_2 i).f0, .int .i64 (en l0_2 i).f1] 32)) 2).trans rfl
  have ac10 : (w3.alloc (.cells #[.string (en l0_2 i).f0, .int .i64 (en l0_2 i).f1] 32)).cell? ⟨w.heap.size, 0, none⟩ = some (.int .i64 a0_0) := (blk_cell (blk_alloc BB1.out (.cells #[.string (en l0_2 i).f0, .int .i64 (en l0_2 i).f1] 32)) 0).trans rfl
  have ac11 : (w3.alloc (.cells #[.string (en l0_2 i).f0, .int .i64 (en l0_2 i).f1] 32)).cell? ⟨w.heap.size, 1, none⟩ = some (.int .i64 a0_1) := (blk_cell (blk_alloc BB1.out (.cells #[.string (en l0_2 i).f0, .int .i64 (en l0_2 i).f1] 32)) 1).trans rfl
  have ac12 : (w3.alloc (.cells #[.string (en l0_2 i).f0, .int .i64 (en l0_2 i).f1] 32)).cell? ⟨w.heap.size, 2, none⟩ = some (.slice A0_2 l0_2.length c0_2) := (blk_cell (blk_alloc BB1.out (.cells #[.string (en l0_2 i).f0, .int .i64 (en l0_2 i).f1] 32)) 2).trans rfl
  have HR3 := Aside0.mk (Kd.C_below HR.out HB3.out)
  obtain ⟨ad, ea, hx0, hx1⟩ := at_T32 HR3.out (i : Int) i0 i1
  subst ea
  rw [Int.toNat_natCast] at hx0 hx1
  have eo : rd_T32 l0_2 (i : Int) = en l0_2 i := rfl
  rw [eo] at hx0 hx1
  obtain ⟨ad', ea', hy0, hy1⟩ := at_T32 (Kd.C_alloc HR3.out (.cells #[.string (en l0_2 i).f0, .int .i64 (en l0_2 i).f1] 32)) (m : Int) m0 m1
  obtain rfl := Option.some.inj ea'
  rw [Int.toNat_natCast] at hy0 hy1
  have eo' : rd_T32 l0_2 (m : Int) = en l0_2 m := rfl
  rw [eo'] at hy0 hy1
  clear eo'
  clear eo
  go_wp2
  have T := one_stored (w3.alloc (.cells #[.string (en l0_2 i).f0, .int .i64 (en l0_2 i).f1] 32)) (w.heap.size + 1) 24 _ _ _ (.int .i64 0) (.int .i64 0) (.slice none 0 0) (blk_alloc BB2.out _)
  refine bodyPost_ret (results_list (rs := [.cell 8 24, .tmp 9]) rfl (by simp) (.cell (w.heap.size + 1) 24 _ (0, 0) _ rfl T hu24 rfl (by kernel_rfl) (.tmp .nil))) rfl ?_
  exact ⟨rfl, three_below (below_alloc HB3.out _) (Nat.le_add_right _ 1) _ _ _⟩
end Go.Proofs.Ytffkgdaookidbaa.XNx
