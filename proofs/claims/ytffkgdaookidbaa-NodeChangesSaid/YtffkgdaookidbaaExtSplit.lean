/-
Contract of node.Split at this dump, in the form in which the printed functions are told, for any node: the two halves share one new row.
-/
import Derived.Test.YtffkgdaookidbaaExtClone
import Derived.Deep.RegionHeld3
import Derived.Deep.DrawnRows
import Derived.Test.YtffkgdaookidbaaBase
set_option linter.unusedVariables false
set_option linter.unusedSimpArgs false
namespace Go.Proofs.Ytffkgdaookidbaa.XNx
open Go.RowKit Go.Proofs.YtffkgdaookidbaaW.PrintWords Go.Proofs.YtffkgdaookidbaaW.PrintLast Go.Proofs.YtffkgdaookidbaaW.PrintMore
open Go.Proofs.Ytffkgdaookidbaa.XW Go.Proofs.Ytffkgdaookidbaa.Base

theorem plain_calls (a b : Int) (A : Option Addr) (c : Nat) (l : List S32) (w : World) (hr : Kd.C k32 w A l.length l) (hc : l.length ≤ c) :
    Calls Try.prog 32 #[.agg #[.int .i64 a, .int .i64 b, .slice A l.length c]] w fun e w' => e = .returned (.bool (valid a b l)) ∧ Below w.heap.size w w' := by
  obtain ⟨k, hk⟩ := Ev.rounds (plain_ev a b l hr.2.1)
  exact node_plain.calls k a b A c l (valid a b l) w hr hc hk
theorem three (w w2 : World) (o1 o2 o3 : Obj) (hb : Below (((w.alloc o1).alloc o2).alloc o3).heap.size (((w.alloc o1).alloc o2).alloc o3) w2) :
    w2.heap[w.heap.size]? = some o1 ∧ w2.heap[w.heap.size + 1]? = some o2 ∧ w2.heap[w.heap.size + 1 + 1]? = some o3 ∧ Below w.heap.size w w2 ∧ w.heap.size + 1 + 1 < w2.heap.size := by
  have s1 : (w.alloc o1).heap.size = w.heap.size + 1 := by simp
  have s2 : ((w.alloc o1).alloc o2).heap.size = w.heap.size + 1 + 1 := by simp
  have q1 := blk_below (blk_alloc (blk_alloc (blk_new w o1) o2) o3) hb
  have q2 := blk_below (blk_alloc (blk_new (w.alloc o1) o2) o3) hb
  have q3 := blk_below (blk_new ((w.alloc o1).alloc o2) o3) hb
  rw [s1] at q2
  rw [s2] at q3
  exact ⟨q1, q2, q3, below_step (((Below.refl w.heap.size w).alloc (Nat.le_refl _) o1).alloc (by simp) o2 |>.alloc (by simp; omega) o3) hb, blk_lt q3⟩
theorem cut3 (g n cp k : Nat) (h1 : k ≤ n) (h2 : n ≤ cp) (W : World) : (Instr.slice 22 (.slice (some ⟨g, 0, none⟩) n cp) none (some (.int .i64 k)) (some (.int .i64 k))).run Try.prog W = .ok (.slice (some ⟨g, 0, none⟩) k k) W := by
  obtain ⟨i0, hi, _, hsz, _⟩ := info_parts info32
  have hu : Try.prog.underlying 22 = some (.slice 32) := Try.underlying22
  have e1 : ((k : Int) ≤ (cp : Int)) := by omega
  simp [Instr.slice, Instr.sliceBounds, Instr.sliceBound, hu, sizeOf, typeInfo, hi, hsz, e1, asIntOf, Addr.add, Result.andThen]
  rw [if_pos (show k ≤ cp by omega)]
  simp
theorem cut2 (g n cp k : Nat) (h1 : k < n) (h2 : n ≤ cp) (W : World) : (Instr.slice 22 (.slice (some ⟨g, 0, none⟩) n cp) (some (.int .i64 k)) none none).run Try.prog W = .ok (.slice (some ⟨g, k * 2, none⟩) (n - k) (cp - k)) W := by
  obtain ⟨i0, hi, _, hsz, _⟩ := info_parts info32
  have := cut_from (P := Try.prog) 22 32 .i64 Try.underlying22 hi 2 hsz (some ⟨g, 0, none⟩) n cp (k : Int) (by omega) (by omega) W
  rw [Int.toNat_natCast, if_neg (by omega)] at this
  rw [this]
  simp [Addr.add]
  try (intro h; exact h.symm)
theorem two_stored (w : World) (g h t : Nat) (hne : g ≠ h) (a0 a1 a2 b0 b1 b2 x0 x1 x2 y0 y1 y2 : Value) (hg : w.heap[g]? = some (.cells #[a0, a1, a2] t (0, 0))) (hh : w.heap[h]? = some (.cells #[b0, b1, b2] t (0, 0))) :
    ((((((w.setCell ⟨g, 0, none⟩ x0).setCell ⟨g, 1, none⟩ x1).setCell ⟨g, 2, none⟩ x2).setCell ⟨h, 0, none⟩ y0).setCell ⟨h, 1, none⟩ y1).setCell ⟨h, 2, none⟩ y2).heap[g]? = some (.cells #[x0, x1, x2] t (0, 0)) ∧
    ((((((w.setCell ⟨g, 0, none⟩ x0).setCell ⟨g, 1, none⟩ x1).setCell ⟨g, 2, none⟩ x2).setCell ⟨h, 0, none⟩ y0).setCell ⟨h, 1, none⟩ y1).setCell ⟨h, 2, none⟩ y2).heap[h]? = some (.cells #[y0, y1, y2] t (0, 0)) :=
  ⟨blk_far (blk_far (blk_far (blk_put (blk_put (blk_put hg 0 x0 rfl) 1 x1 rfl) 2 x2 rfl) (p := ⟨h, 0, none⟩) hne y0) (p := ⟨h, 1, none⟩) hne y1) (p := ⟨h, 2, none⟩) hne y2,
    blk_put (blk_put (blk_put (blk_far (blk_far (blk_far hh (p := ⟨g, 0, none⟩) (Ne.symm hne) x0) (p := ⟨g, 1, none⟩) (Ne.symm hne) x1) (p := ⟨g, 2, none⟩) (Ne.symm hne) x2) 0 y0 rfl) 1 y1 rfl) 2 y2 rfl⟩
theorem six_below {W w : World} {g h : Nat} (hb : Below W.heap.size W w) (hg : W.heap.size ≤ g) (hh : W.heap.size ≤ h) (x0 x1 x2 y0 y1 y2 : Value) :
    Below W.heap.size W ((((((w.setCell ⟨g, 0, none⟩ x0).setCell ⟨g, 1, none⟩ x1).setCell ⟨g, 2, none⟩ x2).setCell ⟨h, 0, none⟩ y0).setCell ⟨h, 1, none⟩ y1).setCell ⟨h, 2, none⟩ y2) :=
  below_set (below_set (below_set (below_set (below_set (below_set hb hg) hg) hg) hh) hh) hh
theorem nes (N g M : Nat) (h1 : N + 1 + 1 < g) (h2 : g < M) : (g ≠ M ∧ g ≠ M + 1 ∧ g ≠ N + 1 ∧ g ≠ N + 1 + 1 ∧ g ≠ N) ∧ (M ≠ g ∧ M + 1 ≠ g ∧ N + 1 ≠ g ∧ N + 1 + 1 ≠ g ∧ N ≠ g) ∧ (M ≠ N + 1 ∧ M ≠ N + 1 + 1 ∧ M + 1 ≠ N + 1 ∧ M + 1 ≠ N + 1 + 1 ∧ M ≠ N ∧ M + 1 ≠ N) ∧ (N + 1 ≠ M ∧ N + 1 + 1 ≠ M ∧ N + 1 ≠ M + 1 ∧ N + 1 + 1 ≠ M + 1 ∧ N ≠ M ∧ N ≠ M + 1) := by omega
theorem set_row {w4 : World} {base g cp L R j N : Nat} {l : List S32} {a0 a1 e0 S1 S2 : Value} (HO : Kd.R k32 32 w4 base (fun _ => True) (.slice (some ⟨g, 0, none⟩) l.length cp) l) (DL : w4.heap[L]? = some (.cells #[a0, a1, e0] 24 (0, 0))) (DR : w4.heap[R]? = some (.cells #[a0, a1, e0] 24 (0, 0)))
    (E2 : w4.heap[N + 1]? = some (.cells #[.int .i64 0, .int .i64 0, .slice none 0 0] 24 (0, 0))) (E3 : w4.heap[N + 1 + 1]? = some (.cells #[.int .i64 0, .int .i64 0, .slice none 0 0] 24 (0, 0))) (hLR : L ≠ R) (hLg : L ≠ g) (hRg : R ≠ g) (h1L : N + 1 ≠ L) (h1R : N + 1 ≠ R) (h1g : N + 1 ≠ g) (h2L : N + 1 + 1 ≠ L) (h2R : N + 1 + 1 ≠ R) (h2g : N + 1 + 1 ≠ g) (hj : j < l.length) :
    let w5 := ((((w4.setCell ⟨L, 2, none⟩ S1).setCell ⟨R, 2, none⟩ S2).setCell ⟨L, 1, none⟩ (.int .i64 0)).setCell ⟨g, j * 2, none⟩ (.string ⟨#[]⟩)).drew
    Kd.R k32 32 w5 base (fun _ => True) (.slice (some ⟨g, 0, none⟩) l.length cp) (l.set j ⟨⟨#[]⟩, (en l j).f1⟩) ∧ w5.heap[L]? = some (.cells #[a0, .int .i64 0, S1] 24 (0, 0)) ∧ w5.heap[R]? = some (.cells #[a0, a1, S2] 24 (0, 0)) ∧
      w5.heap[N + 1]? = some (.cells #[.int .i64 0, .int .i64 0, .slice none 0 0] 24 (0, 0)) ∧ w5.heap[N + 1 + 1]? = some (.cells #[.int .i64 0, .int .i64 0, .slice none 0 0] 24 (0, 0)) := by
  intro w5
  have ht : ∀ q, q ∈ 32 :: k32.E → q ≠ 24 := by decide
  have R1 := Kd.R_set HO DL ht 2 S1
  have R2 := Kd.R_set R1 (blk_far DR (p := ⟨L, 2, none⟩) (Ne.symm hLR) S1) ht 2 S2
  have R3 := Kd.R_set R2 (blk_far (blk_put DL 2 S1 rfl) (p := ⟨R, 2, none⟩) hLR S2) ht 1 (.int .i64 0)
  obtain ⟨ce, hcl, hM, hcc, hfr⟩ := Kd.R_elem R3 z32 (j : Int) (by omega) (by omega)
  obtain rfl := k32_openM hM
  have HP := Kd.R_seg R3 (j : Int) (by omega) (by omega) (seg := [.string (⟨#[]⟩ : ByteArray)]) (j := 0) hcl hcc (show 1 ≤ 2 from by decide) (x' := (⟨(⟨#[]⟩ : ByteArray), (rd_T32 l (j : Int)).f1⟩ : S32)) (k32_mkM _ _ _ (⟨(⟨#[]⟩ : ByteArray), (rd_T32 l (j : Int)).f1⟩ : S32)) (fun _ hk => hk)
  refine ⟨Kd.R_drew HP.1, ?_, ?_, ?_, ?_⟩
  · exact blk_drew (blk_far (blk_put (blk_far (blk_put DL 2 S1 rfl) (p := ⟨R, 2, none⟩) hLR S2) 1 (.int .i64 0) rfl) (p := ⟨g, j * 2, none⟩) hLg _)
  · exact blk_drew (blk_far (blk_far (blk_put (blk_far DR (p := ⟨L, 2, none⟩) (Ne.symm hLR) S1) 2 S2 rfl) (p := ⟨L, 1, none⟩) (Ne.symm hLR) _) (p := ⟨g, j * 2, none⟩) hRg _)
  · exact blk_drew (blk_far (blk_far (blk_far (blk_far E2 (p := ⟨L, 2, none⟩) h1L _) (p := ⟨R, 2, none⟩) h1R _) (p := ⟨L, 1, none⟩) h1L _) (p := ⟨g, j * 2, none⟩) h1g _)
  · exact blk_drew (blk_far (blk_far (blk_far (blk_far E3 (p := ⟨L, 2, none⟩) h2L _) (p := ⟨R, 2, none⟩) h2R _) (p := ⟨L, 1, none⟩) h2L _) (p := ⟨g, j * 2, none⟩) h2g _)
theorem six_row {w : World} {base g cp G H : Nat} {l l' : List S32} {x0 x1 x2 y0 y1 y2 : Value} (HO : Kd.R k32 32 w base (fun _ => True) (.slice (some ⟨g, 0, none⟩) l.length cp) l') (hG : ∃ cs : Array Value, w.heap[G]? = some (.cells cs 24 (0, 0))) (hH : ∃ cs : Array Value, w.heap[H]? = some (.cells cs 24 (0, 0))) (hne : G ≠ H) :
    Kd.R k32 32 (((((((w.setCell ⟨G, 0, none⟩ x0).setCell ⟨G, 1, none⟩ x1).setCell ⟨G, 2, none⟩ x2).setCell ⟨H, 0, none⟩ y0).setCell ⟨H, 1, none⟩ y1).setCell ⟨H, 2, none⟩ y2).drew) base (fun _ => True) (.slice (some ⟨g, 0, none⟩) l.length cp) l' := by
  have ht : ∀ q, q ∈ 32 :: k32.E → q ≠ 24 := by decide
  obtain ⟨cs, hG⟩ := hG
  obtain ⟨ds, hH⟩ := hH
  have g1 := blk_set hG 0 x0
  have g2 := blk_set g1 1 x1
  have h1 := blk_far (blk_far (blk_far hH (p := ⟨G, 0, none⟩) (Ne.symm hne) x0) (p := ⟨G, 1, none⟩) (Ne.symm hne) x1) (p := ⟨G, 2, none⟩) (Ne.symm hne) x2
  have h2 := blk_set h1 0 y0
  have h3 := blk_set h2 1 y1
  exact Kd.R_drew (Kd.R_set (Kd.R_set (Kd.R_set (Kd.R_set (Kd.R_set (Kd.R_set HO hG ht 0 x0) g1 ht 1 x1) g2 ht 2 x2) h1 ht 0 y0) h2 ht 1 y1) h3 ht 2 y2)
theorem halves {w : World} {base g cp n k : Nat} {l : List S32} (H : Kd.R k32 32 w base (fun _ => True) (.slice (some ⟨g, 0, none⟩) n cp) l) (hl : l.length = n) (hk : k < n) :
    Kd.V k32 32 w base (fun k_ => base ≤ k_) (.slice (some ⟨g, 0, none⟩) k k) (l.take k) ∧ Kd.V k32 32 w base (fun k_ => base ≤ k_) (.slice (some ⟨g, k * 2, none⟩) (n - k) (cp - k)) (l.drop k) := by
  have hc := (Kd.R_reads' H).2.1
  have F0 : Kd.F k32 w (fun k_ => base ≤ k_) (some ⟨g, 0, none⟩) n l := Kd.R_F (Kd.R_mono (Kd.R_bound H) (fun k hk => hk.2.1))
  rw [← hl] at F0
  have t1 : (l.take k).length = k := by rw [List.length_take]; omega
  have t2 : (l.drop k).length = n - k := by rw [List.length_drop]; omega
  constructor
  · have F1 := Kd.F_take (m := k) F0 (by omega)
    have := Kd.V_mk (e := 32) (base := base) (c := k) (by omega) F1
    rw [t1] at this
    exact this
  · have F1 := Kd.F_cut (m := k) (c := cp) F0 (by omega) (by omega)
    rw [if_neg (by omega)] at F1
    have := Kd.V_mk (e := 32) (base := base) (c := cp - k) (by omega) F1
    rw [t2] at this
    have e : (Option.map (fun x => x.add (k * k32.sz)) (some (⟨g, 0, none⟩ : Addr))) = some ⟨g, k * 2, none⟩ := by
      show some (Addr.add _ (k * 2)) = _
      simp [Addr.add]
      try (intro h; exact h.symm)
    rw [e] at this
    exact this
set_option maxHeartbeats 4000000 in
set_option maxRecDepth 100000 in
theorem split_bad (a0_0 : Int) (a0_1 : Int) (A0_2 : Option Addr) (c0_2 : Nat) (l0_2 : List (S32)) (w : World) (hr0_2 : Kd.C k32 w A0_2 l0_2.length l0_2) (hc0_2 : l0_2.length ≤ c0_2) (h : valid a0_0 a0_1 l0_2 = false) :
    Calls Try.prog 17 #[.agg #[.int .i64 a0_0, .int .i64 a0_1, .slice A0_2 l0_2.length c0_2]] w fun e w' => e = .returned (.tuple #[.agg #[.int .i64 0, .int .i64 0, .slice none 0 0], .agg #[.int .i64 0, .int .i64 0, .slice none 0 0], .string ⟨#[]⟩, .int .i64 1]) ∧ Below w.heap.size w w' := by
  have hu24 := Try.underlying24
  have HR := Aside0.mk hr0_2
  have HC := Aside0.mk hc0_2
  clear hr0_2 hc0_2
  go_enter Try.func17, Try.ntmps17
  go_wp2_with fail
  refine (plain_calls a0_0 a0_1 A0_2 c0_2 l0_2 _ (Kd.C_alloc (Kd.C_alloc (Kd.C_alloc HR.out _) _) _) HC.out).mono ?_
  rintro e w2 ⟨rfl, hb⟩
  obtain ⟨b1, b2, b3, hB, hlt⟩ := three _ _ _ _ _ hb
  clear hb
  have HB := Aside0.mk hB
  have B1 := Aside0.mk b1
  have B2 := Aside0.mk b2
  have B3 := Aside0.mk b3
  rw [h]
  have c10 := (blk_cell b1 0).trans rfl
  have c11 := (blk_cell b1 1).trans rfl
  have c12 := (blk_cell b1 2).trans rfl
  have c20 := (blk_cell b2 0).trans rfl
  have c21 := (blk_cell b2 1).trans rfl
  have c22 := (blk_cell b2 2).trans rfl
  have c30 := (blk_cell b3 0).trans rfl
  have c31 := (blk_cell b3 1).trans rfl
  have c32 := (blk_cell b3 2).trans rfl
  have f20 := blk_frozen b2 0
  have f21 := blk_frozen b2 1
  have f22 := blk_frozen b2 2
  have f30 := blk_frozen b3 0
  have f31 := blk_frozen b3 1
  have f32 := blk_frozen b3 2
  clear b1 b2 b3 hB h
  go_wp2
  have T := two_stored w2 (w.heap.size + 1) (w.heap.size + 1 + 1) 24 (Nat.ne_of_lt (Nat.lt_succ_self _)) _ _ _ _ _ _ (.int .i64 0) (.int .i64 0) (.slice none 0 0) (.int .i64 0) (.int .i64 0) (.slice none 0 0) B2.out B3.out
  refine bodyPost_ret (results_list (rs := [.cell 2 24, .cell 3 24, .tmp 4, .tmp 5]) rfl (by simp) (.cell (w.heap.size + 1) 24 _ (0, 0) _ rfl T.1 hu24 rfl (by kernel_rfl) (.cell (w.heap.size + 1 + 1) 24 _ (0, 0) _ rfl T.2 hu24 rfl (by kernel_rfl) (.tmp (.tmp .nil))))) rfl ?_
  exact ⟨rfl, six_below HB.out (Nat.le_add_right _ 1) (Nat.le_add_right _ 2) _ _ _ _ _ _⟩
set_option maxHeartbeats 4000000 in
set_option maxRecDepth 100000 in
theorem split_one (a0_0 : Int) (a0_1 : Int) (A0_2 : Option Addr) (c0_2 : Nat) (l0_2 : List (S32)) (w : World) (hr0_2 : Kd.C k32 w A0_2 l0_2.length l0_2) (hc0_2 : l0_2.length ≤ c0_2) (h : valid a0_0 a0_1 l0_2 = true) (h1 : l0_2.length = 1) :
    Calls Try.prog 17 #[.agg #[.int .i64 a0_0, .int .i64 a0_1, .slice A0_2 l0_2.length c0_2]] w fun e w' => e = .returned (.tuple #[.agg #[.int .i64 0, .int .i64 0, .slice none 0 0], .agg #[.int .i64 0, .int .i64 0, .slice none 0 0], .string ⟨#[]⟩, .int .i64 9]) ∧ Below w.heap.size w w' := by
  have c4b0 : ((l0_2.length : Int) == 1) = true := beq_iff_eq.mpr (by omega)
  clear h1
  have hu24 := Try.underlying24
  have HR := Aside0.mk hr0_2
  have HC := Aside0.mk hc0_2
  clear hr0_2 hc0_2
  go_enter Try.func17, Try.ntmps17
  go_wp2_with fail
  refine (plain_calls a0_0 a0_1 A0_2 c0_2 l0_2 _ (Kd.C_alloc (Kd.C_alloc (Kd.C_alloc HR.out _) _) _) HC.out).mono ?_
  rintro e w2 ⟨rfl, hb⟩
  obtain ⟨b1, b2, b3, hB, hlt⟩ := three _ _ _ _ _ hb
  clear hb
  have HB := Aside0.mk hB
  have B1 := Aside0.mk b1
  have B2 := Aside0.mk b2
  have B3 := Aside0.mk b3
  rw [h]
  have c10 := (blk_cell b1 0).trans rfl
  have c11 := (blk_cell b1 1).trans rfl
  have c12 := (blk_cell b1 2).trans rfl
  have c20 := (blk_cell b2 0).trans rfl
  have c21 := (blk_cell b2 1).trans rfl
  have c22 := (blk_cell b2 2).trans rfl
  have c30 := (blk_cell b3 0).trans rfl
  have c31 := (blk_cell b3 1).trans rfl
  have c32 := (blk_cell b3 2).trans rfl
  have f20 := blk_frozen b2 0
  have f21 := blk_frozen b2 1
  have f22 := blk_frozen b2 2
  have f30 := blk_frozen b3 0
  have f31 := blk_frozen b3 1
  have f32 := blk_frozen b3 2
  clear b1 b2 b3 hB h
  go_wp2
  have T := two_stored w2 (w.heap.size + 1) (w.heap.size + 1 + 1) 24 (Nat.ne_of_lt (Nat.lt_succ_self _)) _ _ _ _ _ _ (.int .i64 0) (.int .i64 0) (.slice none 0 0) (.int .i64 0) (.int .i64 0) (.slice none 0 0) B2.out B3.out
  refine bodyPost_ret (results_list (rs := [.cell 2 24, .cell 3 24, .tmp 4, .tmp 5]) rfl (by simp) (.cell (w.heap.size + 1) 24 _ (0, 0) _ rfl T.1 hu24 rfl (by kernel_rfl) (.cell (w.heap.size + 1 + 1) 24 _ (0, 0) _ rfl T.2 hu24 rfl (by kernel_rfl) (.tmp (.tmp .nil))))) rfl ?_
  exact ⟨rfl, six_below HB.out (Nat.le_add_right _ 1) (Nat.le_add_right _ 2) _ _ _ _ _ _⟩
set_option maxHeartbeats 4000000 in
set_option maxRecDepth 100000 in
theorem split_main (a0_0 : Int) (a0_1 : Int) (A0_2 : Option Addr) (c0_2 : Nat) (l0_2 : List (S32)) (w : World) (hr0_2 : Kd.C k32 w A0_2 l0_2.length l0_2) (hc0_2 : l0_2.length ≤ c0_2) (h : valid a0_0 a0_1 l0_2 = true) (h2 : 2 ≤ l0_2.length) (h120 : l0_2.length ≤ 120) (k : Nat) (hk : k = (l0_2.length + 1) / 2) :
    Calls Try.prog 17 #[.agg #[.int .i64 a0_0, .int .i64 a0_1, .slice A0_2 l0_2.length c0_2]] w fun e w' => ∃ v2_ v5_ : Value, e = .returned (.tuple #[.agg #[.int .i64 a0_0, .int .i64 0, v2_], .agg #[.int .i64 a0_0, .int .i64 a0_1, v5_], .string (en l0_2 (k - 1)).f0, .int .i64 0]) ∧ Kd.V k32 32 w' w.heap.size (fun k_ => w.heap.size ≤ k_) v2_ ((l0_2.set (k - 1) ⟨⟨#[]⟩, (en l0_2 (k - 1)).f1⟩).take k) ∧ Kd.V k32 32 w' w.heap.size (fun k_ => w.heap.size ≤ k_) v5_ ((l0_2.set (k - 1) ⟨⟨#[]⟩, (en l0_2 (k - 1)).f1⟩).drop k) ∧ Below w.heap.size w w' := by
  have k1 : 1 ≤ k := by omega
  have k2 : k < l0_2.length := by omega
  have q1 : 1 ≤ l0_2.length := by omega
  have q1000 : l0_2.length ≤ 1000 := by omega
  have hq : Int.tdiv ((l0_2.length : Int) + 1) 2 = (k : Int) := by rw [Int.tdiv_eq_ediv_of_nonneg (by omega)]; omega
  generalize hj : k - 1 = j
  have hkj : (k : Int) - 1 = (j : Int) := by omega
  have j0 : (0 : Int) ≤ (j : Int) := by omega
  have jn : (j : Int) < (l0_2.length : Int) := by omega
  have j2 : j < l0_2.length := by omega
  have k0 : (0 : Int) ≤ (k : Int) := by omega
  have kn : (k : Int) ≤ (l0_2.length : Int) := by omega
  have hn1 : ((l0_2.length : Int) == 1) = false := beq_eq_false_iff_ne.mpr (by omega)
  clear hj hk
  have hu24 := Try.underlying24
  have HR := Aside0.mk hr0_2
  have HC := Aside0.mk hc0_2
  clear hr0_2 hc0_2
  go_enter Try.func17, Try.ntmps17
  go_wp2_with fail
  refine (plain_calls a0_0 a0_1 A0_2 c0_2 l0_2 _ (Kd.C_alloc (Kd.C_alloc (Kd.C_alloc HR.out _) _) _) HC.out).mono ?_
  rintro e w2 ⟨rfl, hb⟩
  obtain ⟨b1, b2, b3, hB, hlt⟩ := three _ _ _ _ _ hb
  clear hb
  have HB := Aside0.mk hB
  have B1 := Aside0.mk b1
  have B2 := Aside0.mk b2
  have B3 := Aside0.mk b3
  rw [h]
  have c10 := (blk_cell b1 0).trans rfl
  have c11 := (blk_cell b1 1).trans rfl
  have c12 := (blk_cell b1 2).trans rfl
  have c20 := (blk_cell b2 0).trans rfl
  have c21 := (blk_cell b2 1).trans rfl
  have c22 := (blk_cell b2 2).trans rfl
  have c30 := (blk_cell b3 0).trans rfl
  have c31 := (blk_cell b3 1).trans rfl
  have c32 := (blk_cell b3 2).trans rfl
  have f20 := blk_frozen b2 0
  have f21 := blk_frozen b2 1
  have f22 := blk_frozen b2 2
  have f30 := blk_frozen b3 0
  have f31 := blk_frozen b3 1
  have f32 := blk_frozen b3 2
  clear b1 b2 b3 hB h
  go_wp2_with fail
  have hroom := HC.out
  refine (clone_calls A0_2 c0_2 l0_2 w2 (Kd.C_below HR.out HB.out) HC.out q1 q1000).mono ?_
  rintro e w3 ⟨v, rfl, ho, hb3⟩
  obtain ⟨g, cp, rfl, hg1, hg2, _⟩ := Kd.R_form ho q1
  have BB1 := Aside0.mk (blk_below B1.out hb3)
  have BB2 := Aside0.mk (blk_below B2.out hb3)
  have BB3 := Aside0.mk (blk_below B3.out hb3)
  have HB3 := Aside0.mk (below_step HB.out hb3)
  have HO := Aside0.mk (Kd.R_lower ho (below_size HB.out))
  have hcp : l0_2.length ≤ cp := (Kd.R_reads' ho).2.1
  have G1 := Aside0.mk (Nat.lt_of_lt_of_le hlt hg1)
  have HLT := Aside0.mk (show w.heap.size + 1 + 1 < w3.heap.size from Nat.lt_of_lt_of_le hlt (below_size hb3))
  have HG2 := Aside0.mk hg2
  clear ho hb3 hlt hg1 hg2 c10 c11 c12 c20 c21 c22 c30 c31 c32 f20 f21 f22 f30 f31 f32 B1 B2 B3 HB
  have c10 : w3.cell? ⟨w.heap.size, 0, none⟩ = some (.int .i64 a0_0) := (blk_cell BB1.out 0).trans rfl
  have c11 : w3.cell? ⟨w.heap.size, 1, none⟩ = some (.int .i64 a0_1) := (blk_cell BB1.out 1).trans rfl
  have c12 : w3.cell? ⟨w.heap.size, 2, none⟩ = some (.slice A0_2 l0_2.length c0_2) := (blk_cell BB1.out 2).trans rfl
  have n10 := World.new_ne w3 _ c10
  have n11 := World.new_ne w3 _ c11
  have n12 := World.new_ne w3 _ c12
  go_wp2_with fail
  go_region_held3 (fun w' => w'.cell? ⟨w.heap.size, 0, none⟩ = some (.int .i64 a0_0) ∧ w'.cell? ⟨w.heap.size, 1, none⟩ = some (.int .i64 a0_1) ∧ w'.cell? ⟨w.heap.size, 2, none⟩ = some (.slice A0_2 l0_2.length c0_2)) (go_keep) (fail)
  · have bg : w.heap.size ≤ g := Nat.le_of_lt (Nat.lt_of_lt_of_le (Nat.lt_succ_of_lt (Nat.lt_succ_self _)) (Nat.le_of_lt G1.out))
    have bM : w.heap.size ≤ w3.heap.size := Nat.le_trans bg (Nat.le_of_lt HG2.out)
    have bM1 : w.heap.size ≤ w3.heap.size + 1 := Nat.le_trans bM (Nat.le_succ _)
    have HO4 := Aside0.mk (Kd.R_drew (Kd.R_alloc (Kd.R_alloc HO.out (.cells #[.int .i64 a0_0, .int .i64 a0_1, .slice A0_2 l0_2.length c0_2] 24)) (.cells #[.int .i64 a0_0, .int .i64 a0_1, .slice A0_2 l0_2.length c0_2] 24)))
    have D8 := Aside0.mk (blk_drew (blk_alloc (blk_new w3 (.cells #[.int .i64 a0_0, .int .i64 a0_1, .slice A0_2 l0_2.length c0_2] 24)) (.cells #[.int .i64 a0_0, .int .i64 a0_1, .slice A0_2 l0_2.length c0_2] 24)))
    have D9 := Aside0.mk (blk_drew (blk_new (w3.alloc (.cells #[.int .i64 a0_0, .int .i64 a0_1, .slice A0_2 l0_2.length c0_2] 24)) (.cells #[.int .i64 a0_0, .int .i64 a0_1, .slice A0_2 l0_2.length c0_2] 24)))
    have E2 := Aside0.mk (blk_drew (blk_alloc (blk_alloc BB2.out (.cells #[.int .i64 a0_0, .int .i64 a0_1, .slice A0_2 l0_2.length c0_2] 24)) (.cells #[.int .i64 a0_0, .int .i64 a0_1, .slice A0_2 l0_2.length c0_2] 24)))
    have E3 := Aside0.mk (blk_drew (blk_alloc (blk_alloc BB3.out (.cells #[.int .i64 a0_0, .int .i64 a0_1, .slice A0_2 l0_2.length c0_2] 24)) (.cells #[.int .i64 a0_0, .int .i64 a0_1, .slice A0_2 l0_2.length c0_2] 24)))
    have HB4 := Aside0.mk (below_drew (below_alloc (below_alloc HB3.out (.cells #[.int .i64 a0_0, .int .i64 a0_1, .slice A0_2 l0_2.length c0_2] 24)) (.cells #[.int .i64 a0_0, .int .i64 a0_1, .slice A0_2 l0_2.length c0_2] 24)))
    rw [show (w3.alloc (.cells #[.int .i64 a0_0, .int .i64 a0_1, .slice A0_2 l0_2.length c0_2] 24)).heap.size = w3.heap.size + 1 by simp] at D9
    clear c10 c11 c12 n10 n11 n12 HO BB1 BB2 BB3 HB3
    generalize ((w3.alloc (.cells #[.int .i64 a0_0, .int .i64 a0_1, .slice A0_2 l0_2.length c0_2] 24)).alloc (.cells #[.int .i64 a0_0, .int .i64 a0_1, .slice A0_2 l0_2.length c0_2] 24)).drew = w4 at HO4 D8 D9 E2 E3 HB4 ⊢
    obtain ⟨⟨x1, x2, x3, x4, x5⟩, ⟨y1, y2, y3, y4, y5⟩, ⟨z1, z2, z3, z4, z5, z6⟩, ⟨u1, u2, u3, u4, u5, u6⟩⟩ := nes w.heap.size g w3.heap.size G1.out HG2.out
    obtain ⟨ce, _, hM, hcc, hfr⟩ := Kd.R_elem HO4.out z32 (j : Int) j0 jn
    obtain rfl := k32_openM hM
    have p0 : w4.cell? ⟨g, j * 2, none⟩ = some (.string (en l0_2 j).f0) := hcc 0 _ rfl
    have pf : w4.frozen? ⟨g, j * 2, none⟩ = false := hfr 0
    clear hcc hfr hM
    have d80 := (blk_cell D8.out 0).trans rfl
    have d81 := (blk_cell D8.out 1).trans rfl
    have d82 := (blk_cell D8.out 2).trans rfl
    have d90 := (blk_cell D9.out 0).trans rfl
    have d91 := (blk_cell D9.out 1).trans rfl
    have d92 := (blk_cell D9.out 2).trans rfl
    have g80 := blk_frozen D8.out 0
    have g81 := blk_frozen D8.out 1
    have g82 := blk_frozen D8.out 2
    have g90 := blk_frozen D9.out 0
    have g91 := blk_frozen D9.out 1
    have g92 := blk_frozen D9.out 2
    have c20 := (blk_cell E2.out 0).trans rfl
    have c21 := (blk_cell E2.out 1).trans rfl
    have c22 := (blk_cell E2.out 2).trans rfl
    have c30 := (blk_cell E3.out 0).trans rfl
    have c31 := (blk_cell E3.out 1).trans rfl
    have c32 := (blk_cell E3.out 2).trans rfl
    have f20 := blk_frozen E2.out 0
    have f21 := blk_frozen E2.out 1
    have f22 := blk_frozen E2.out 2
    have f30 := blk_frozen E3.out 0
    have f31 := blk_frozen E3.out 1
    have f32 := blk_frozen E3.out 2
    have kc : (k : Int) ≤ (cp : Int) := Int.ofNat_le.mpr (Nat.le_trans (Nat.le_of_lt k2) hcp)
    have t3 := cut3 g l0_2.length cp k (Nat.le_of_lt k2) hcp
    have t2 := cut2 g l0_2.length cp k k2 hcp
    go_wp2_with fail
    go_region_held3 (fun w' => w'.cell? ⟨g, j * 2, none⟩ = some (.string (en l0_2 j).f0)) (go_keep) (fail)
    go_wp2_with fail
    have ⟨HO5, DL5, DR5, E25, E35⟩ := set_row (S1 := .slice (some ⟨g, 0, none⟩) k k) (S2 := .slice (some ⟨g, k * 2, none⟩) (l0_2.length - k) (cp - k)) HO4.out D8.out D9.out E2.out E3.out (Nat.ne_of_lt (Nat.lt_succ_self _)) y1 y2 u1 u3 y3 u2 u4 y4 j2
    have HB5 := Aside0.mk (below_drew (below_set (j := j * 2) (v := .string ⟨#[]⟩) (below_set (j := 1) (v := .int .i64 0) (below_set (j := 2) (v := .slice (some ⟨g, k * 2, none⟩) (l0_2.length - k) (cp - k)) (below_set (j := 2) (v := .slice (some ⟨g, 0, none⟩) k k) HB4.out bM) bM1) bM) bg))
    clear d80 d81 d82 d90 d91 d92 g80 g81 g82 g90 g91 g92 c20 c21 c22 c30 c31 c32 f20 f21 f22 f30 f31 f32 p0 pf HO4 D8 D9 E2 E3 HB4
    generalize ((((w4.setCell ⟨w3.heap.size, 2, none⟩ (.slice (some ⟨g, 0, none⟩) k k)).setCell ⟨w3.heap.size + 1, 2, none⟩ (.slice (some ⟨g, k * 2, none⟩) (l0_2.length - k) (cp - k))).setCell ⟨w3.heap.size, 1, none⟩ (.int .i64 0)).setCell ⟨g, j * 2, none⟩ (.string ⟨#[]⟩)).drew = w5 at HO5 DL5 DR5 E25 E35 HB5 ⊢
    have HO6 := Aside0.mk HO5
    have E26 := Aside0.mk E25
    have E36 := Aside0.mk E35
    have d80 := (blk_cell DL5 0).trans rfl
    have d81 := (blk_cell DL5 1).trans rfl
    have d82 := (blk_cell DL5 2).trans rfl
    have d90 := (blk_cell DR5 0).trans rfl
    have d91 := (blk_cell DR5 1).trans rfl
    have d92 := (blk_cell DR5 2).trans rfl
    have c20 := (blk_cell E25 0).trans rfl
    have c21 := (blk_cell E25 1).trans rfl
    have c22 := (blk_cell E25 2).trans rfl
    have c30 := (blk_cell E35 0).trans rfl
    have c31 := (blk_cell E35 1).trans rfl
    have c32 := (blk_cell E35 2).trans rfl
    have f20 := blk_frozen E25 0
    have f21 := blk_frozen E25 1
    have f22 := blk_frozen E25 2
    have f30 := blk_frozen E35 0
    have f31 := blk_frozen E35 1
    have f32 := blk_frozen E35 2
    clear HO5 DL5 DR5 E25 E35
    go_region_held3 (fun w' => w'.cell? ⟨w3.heap.size, 0, none⟩ = some (.int .i64 a0_0) ∧ w'.cell? ⟨w3.heap.size, 1, none⟩ = some (.int .i64 0) ∧ w'.cell? ⟨w3.heap.size, 2, none⟩ = some (.slice (some ⟨g, 0, none⟩) k k) ∧ w'.cell? ⟨w3.heap.size + 1, 0, none⟩ = some (.int .i64 a0_0) ∧ w'.cell? ⟨w3.heap.size + 1, 1, none⟩ = some (.int .i64 a0_1) ∧ w'.cell? ⟨w3.heap.size + 1, 2, none⟩ = some (.slice (some ⟨g, k * 2, none⟩) (l0_2.length - k) (cp - k))) (go_keep) (fail)
    go_wp2
    have T := two_stored w5 (w.heap.size + 1) (w.heap.size + 1 + 1) 24 (Nat.ne_of_lt (Nat.lt_succ_self _)) _ _ _ _ _ _ (.int .i64 a0_0) (.int .i64 0) (.slice (some ⟨g, 0, none⟩) k k) (.int .i64 a0_0) (.int .i64 a0_1) (.slice (some ⟨g, k * 2, none⟩) (l0_2.length - k) (cp - k)) E26.out E36.out
    refine bodyPost_ret (results_list (rs := [.cell 2 24, .cell 3 24, .tmp 4, .tmp 5]) rfl (by simp) (.cell (w.heap.size + 1) 24 _ (0, 0) _ rfl (blk_drew T.1) hu24 rfl (by kernel_rfl) (.cell (w.heap.size + 1 + 1) 24 _ (0, 0) _ rfl (blk_drew T.2) hu24 rfl (by kernel_rfl) (.tmp (.tmp .nil))))) rfl ?_
    have HV := halves (six_row (x0 := .int .i64 a0_0) (x1 := .int .i64 0) (x2 := .slice (some ⟨g, 0, none⟩) k k) (y0 := .int .i64 a0_0) (y1 := .int .i64 a0_1) (y2 := .slice (some ⟨g, k * 2, none⟩) (l0_2.length - k) (cp - k)) HO6.out ⟨_, E26.out⟩ ⟨_, E36.out⟩ (Nat.ne_of_lt (Nat.lt_succ_self _))) (List.length_set ..) k2
    exact ⟨_, _, rfl, HV.1, HV.2, below_drew (six_below HB5.out (Nat.le_add_right _ 1) (Nat.le_add_right _ 2) _ _ _ _ _ _)⟩
  · have bg : w.heap.size ≤ g := Nat.le_of_lt (Nat.lt_of_lt_of_le (Nat.lt_succ_of_lt (Nat.lt_succ_self _)) (Nat.le_of_lt G1.out))
    have bM : w.heap.size ≤ w3.heap.size := Nat.le_trans bg (Nat.le_of_lt HG2.out)
    have bM1 : w.heap.size ≤ w3.heap.size + 1 := Nat.le_trans bM (Nat.le_succ _)
    have HO4 := Aside0.mk (Kd.R_drew (Kd.R_alloc (Kd.R_alloc HO.out (.cells #[.int .i64 a0_0, .int .i64 a0_1, .slice A0_2 l0_2.length c0_2] 24)) (.cells #[.int .i64 a0_0, .int .i64 a0_1, .slice A0_2 l0_2.length c0_2] 24)))
    have D8 := Aside0.mk (blk_drew (blk_alloc (blk_new w3 (.cells #[.int .i64 a0_0, .int .i64 a0_1, .slice A0_2 l0_2.length c0_2] 24)) (.cells #[.int .i64 a0_0, .int .i64 a0_1, .slice A0_2 l0_2.length c0_2] 24)))
    have D9 := Aside0.mk (blk_drew (blk_new (w3.alloc (.cells #[.int .i64 a0_0, .int .i64 a0_1, .slice A0_2 l0_2.length c0_2] 24)) (.cells #[.int .i64 a0_0, .int .i64 a0_1, .slice A0_2 l0_2.length c0_2] 24)))
    have E2 := Aside0.mk (blk_drew (blk_alloc (blk_alloc BB2.out (.cells #[.int .i64 a0_0, .int .i64 a0_1, .slice A0_2 l0_2.length c0_2] 24)) (.cells #[.int .i64 a0_0, .int .i64 a0_1, .slice A0_2 l0_2.length c0_2] 24)))
    have E3 := Aside0.mk (blk_drew (blk_alloc (blk_alloc BB3.out (.cells #[.int .i64 a0_0, .int .i64 a0_1, .slice A0_2 l0_2.length c0_2] 24)) (.cells #[.int .i64 a0_0, .int .i64 a0_1, .slice A0_2 l0_2.length c0_2] 24)))
    have HB4 := Aside0.mk (below_drew (below_alloc (below_alloc HB3.out (.cells #[.int .i64 a0_0, .int .i64 a0_1, .slice A0_2 l0_2.length c0_2] 24)) (.cells #[.int .i64 a0_0, .int .i64 a0_1, .slice A0_2 l0_2.length c0_2] 24)))
    rw [show (w3.alloc (.cells #[.int .i64 a0_0, .int .i64 a0_1, .slice A0_2 l0_2.length c0_2] 24)).heap.size = w3.heap.size + 1 by simp] at D9
    clear c10 c11 c12 n10 n11 n12 HO BB1 BB2 BB3 HB3
    generalize ((w3.alloc (.cells #[.int .i64 a0_0, .int .i64 a0_1, .slice A0_2 l0_2.length c0_2] 24)).alloc (.cells #[.int .i64 a0_0, .int .i64 a0_1, .slice A0_2 l0_2.length c0_2] 24)).drew = w4 at HO4 D8 D9 E2 E3 HB4 ⊢
    obtain ⟨⟨x1, x2, x3, x4, x5⟩, ⟨y1, y2, y3, y4, y5⟩, ⟨z1, z2, z3, z4, z5, z6⟩, ⟨u1, u2, u3, u4, u5, u6⟩⟩ := nes w.heap.size g w3.heap.size G1.out HG2.out
    obtain ⟨ce, _, hM, hcc, hfr⟩ := Kd.R_elem HO4.out z32 (j : Int) j0 jn
    obtain rfl := k32_openM hM
    have p0 : w4.cell? ⟨g, j * 2, none⟩ = some (.string (en l0_2 j).f0) := hcc 0 _ rfl
    have pf : w4.frozen? ⟨g, j * 2, none⟩ = false := hfr 0
    clear hcc hfr hM
    have d80 := (blk_cell D8.out 0).trans rfl
    have d81 := (blk_cell D8.out 1).trans rfl
    have d82 := (blk_cell D8.out 2).trans rfl
    have d90 := (blk_cell D9.out 0).trans rfl
    have d91 := (blk_cell D9.out 1).trans rfl
    have d92 := (blk_cell D9.out 2).trans rfl
    have g80 := blk_frozen D8.out 0
    have g81 := blk_frozen D8.out 1
    have g82 := blk_frozen D8.out 2
    have g90 := blk_frozen D9.out 0
    have g91 := blk_frozen D9.out 1
    have g92 := blk_frozen D9.out 2
    have c20 := (blk_cell E2.out 0).trans rfl
    have c21 := (blk_cell E2.out 1).trans rfl
    have c22 := (blk_cell E2.out 2).trans rfl
    have c30 := (blk_cell E3.out 0).trans rfl
    have c31 := (blk_cell E3.out 1).trans rfl
    have c32 := (blk_cell E3.out 2).trans rfl
    have f20 := blk_frozen E2.out 0
    have f21 := blk_frozen E2.out 1
    have f22 := blk_frozen E2.out 2
    have f30 := blk_frozen E3.out 0
    have f31 := blk_frozen E3.out 1
    have f32 := blk_frozen E3.out 2
    have kc : (k : Int) ≤ (cp : Int) := Int.ofNat_le.mpr (Nat.le_trans (Nat.le_of_lt k2) hcp)
    have t3 := cut3 g l0_2.length cp k (Nat.le_of_lt k2) hcp
    have t2 := cut2 g l0_2.length cp k k2 hcp
    go_wp2_with fail
    go_region_held3 (fun w' => w'.cell? ⟨g, j * 2, none⟩ = some (.string (en l0_2 j).f0)) (go_keep) (fail)
    go_wp2_with fail
    have ⟨HO5, DL5, DR5, E25, E35⟩ := set_row (S1 := .slice (some ⟨g, 0, none⟩) k k) (S2 := .slice (some ⟨g, k * 2, none⟩) (l0_2.length - k) (cp - k)) HO4.out D9.out D8.out E2.out E3.out (Ne.symm (Nat.ne_of_lt (Nat.lt_succ_self _))) y2 y1 u3 u1 y3 u4 u2 y4 j2
    have HB5 := Aside0.mk (below_drew (below_set (j := j * 2) (v := .string ⟨#[]⟩) (below_set (j := 1) (v := .int .i64 0) (below_set (j := 2) (v := .slice (some ⟨g, k * 2, none⟩) (l0_2.length - k) (cp - k)) (below_set (j := 2) (v := .slice (some ⟨g, 0, none⟩) k k) HB4.out bM1) bM) bM1) bg))
    clear d80 d81 d82 d90 d91 d92 g80 g81 g82 g90 g91 g92 c20 c21 c22 c30 c31 c32 f20 f21 f22 f30 f31 f32 p0 pf HO4 D8 D9 E2 E3 HB4
    generalize ((((w4.setCell ⟨w3.heap.size + 1, 2, none⟩ (.slice (some ⟨g, 0, none⟩) k k)).setCell ⟨w3.heap.size, 2, none⟩ (.slice (some ⟨g, k * 2, none⟩) (l0_2.length - k) (cp - k))).setCell ⟨w3.heap.size + 1, 1, none⟩ (.int .i64 0)).setCell ⟨g, j * 2, none⟩ (.string ⟨#[]⟩)).drew = w5 at HO5 DL5 DR5 E25 E35 HB5 ⊢
    have HO6 := Aside0.mk HO5
    have E26 := Aside0.mk E25
    have E36 := Aside0.mk E35
    have d80 := (blk_cell DL5 0).trans rfl
    have d81 := (blk_cell DL5 1).trans rfl
    have d82 := (blk_cell DL5 2).trans rfl
    have d90 := (blk_cell DR5 0).trans rfl
    have d91 := (blk_cell DR5 1).trans rfl
    have d92 := (blk_cell DR5 2).trans rfl
    have c20 := (blk_cell E25 0).trans rfl
    have c21 := (blk_cell E25 1).trans rfl
    have c22 := (blk_cell E25 2).trans rfl
    have c30 := (blk_cell E35 0).trans rfl
    have c31 := (blk_cell E35 1).trans rfl
    have c32 := (blk_cell E35 2).trans rfl
    have f20 := blk_frozen E25 0
    have f21 := blk_frozen E25 1
    have f22 := blk_frozen E25 2
    have f30 := blk_frozen E35 0
    have f31 := blk_frozen E35 1
    have f32 := blk_frozen E35 2
    clear HO5 DL5 DR5 E25 E35
    go_region_held3 (fun w' => w'.cell? ⟨w3.heap.size + 1, 0, none⟩ = some (.int .i64 a0_0) ∧ w'.cell? ⟨w3.heap.size + 1, 1, none⟩ = some (.int .i64 0) ∧ w'.cell? ⟨w3.heap.size + 1, 2, none⟩ = some (.slice (some ⟨g, 0, none⟩) k k) ∧ w'.cell? ⟨w3.heap.size, 0, none⟩ = some (.int .i64 a0_0) ∧ w'.cell? ⟨w3.heap.size, 1, none⟩ = some (.int .i64 a0_1) ∧ w'.cell? ⟨w3.heap.size, 2, none⟩ = some (.slice (some ⟨g, k * 2, none⟩) (l0_2.length - k) (cp - k))) (go_keep) (fail)
    go_wp2
    have T := two_stored w5 (w.heap.size + 1) (w.heap.size + 1 + 1) 24 (Nat.ne_of_lt (Nat.lt_succ_self _)) _ _ _ _ _ _ (.int .i64 a0_0) (.int .i64 0) (.slice (some ⟨g, 0, none⟩) k k) (.int .i64 a0_0) (.int .i64 a0_1) (.slice (some ⟨g, k * 2, none⟩) (l0_2.length - k) (cp - k)) E26.out E36.out
    refine bodyPost_ret (results_list (rs := [.cell 2 24, .cell 3 24, .tmp 4, .tmp 5]) rfl (by simp) (.cell (w.heap.size + 1) 24 _ (0, 0) _ rfl (blk_drew T.1) hu24 rfl (by kernel_rfl) (.cell (w.heap.size + 1 + 1) 24 _ (0, 0) _ rfl (blk_drew T.2) hu24 rfl (by kernel_rfl) (.tmp (.tmp .nil))))) rfl ?_
    have HV := halves (six_row (x0 := .int .i64 a0_0) (x1 := .int .i64 0) (x2 := .slice (some ⟨g, 0, none⟩) k k) (y0 := .int .i64 a0_0) (y1 := .int .i64 a0_1) (y2 := .slice (some ⟨g, k * 2, none⟩) (l0_2.length - k) (cp - k)) HO6.out ⟨_, E26.out⟩ ⟨_, E36.out⟩ (Nat.ne_of_lt (Nat.lt_succ_self _))) (List.length_set ..) k2
    exact ⟨_, _, rfl, HV.1, HV.2, below_drew (six_below HB5.out (Nat.le_add_right _ 1) (Nat.le_add_right _ 2) _ _ _ _ _ _)⟩
def node_Split.f (a b : Int) (l : List S32) : Option (Int × Int × (List (S32)) × Int × Int × (List (S32)) × ByteArray × Int) :=
  if valid a b l = false then some (0, 0, [], 0, 0, [], ⟨#[]⟩, 1) else if l.length = 1 then some (0, 0, [], 0, 0, [], ⟨#[]⟩, 9) else
    some (a, 0, (l.set ((l.length + 1) / 2 - 1) ⟨⟨#[]⟩, (en l ((l.length + 1) / 2 - 1)).f1⟩).take ((l.length + 1) / 2), a, b, (l.set ((l.length + 1) / 2 - 1) ⟨⟨#[]⟩, (en l ((l.length + 1) / 2 - 1)).f1⟩).drop ((l.length + 1) / 2), (en l ((l.length + 1) / 2 - 1)).f0, 0)
theorem node_Split.calls (a0_0 : Int) (a0_1 : Int) (A0_2 : Option Addr) (c0_2 : Nat) (l0_2 : List (S32)) (r1 : Int) (r2 : Int) (r3 : List (S32)) (r4 : Int) (r5 : Int) (r6 : List (S32)) (r7 : ByteArray) (r8 : Int) (w : World) (hr0_2 : Kd.C k32 w A0_2 l0_2.length l0_2) (hc0_2 : l0_2.length ≤ c0_2) (h : node_Split.f a0_0 a0_1 l0_2 = some (r1, r2, r3, r4, r5, r6, r7, r8)) :
    Calls Try.prog 17 #[.agg #[.int .i64 a0_0, .int .i64 a0_1, .slice A0_2 l0_2.length c0_2]] w fun e w' => ∃ v2_ v5_ : Value, e = .returned (.tuple #[.agg #[.int .i64 r1, .int .i64 r2, v2_], .agg #[.int .i64 r4, .int .i64 r5, v5_], .string r7, .int .i64 r8]) ∧ Kd.V k32 32 w' w.heap.size (fun k_ => w.heap.size ≤ k_) v2_ r3 ∧ Kd.V k32 32 w' w.heap.size (fun k_ => w.heap.size ≤ k_) v5_ r6 ∧ Below w.heap.size w w' := by
  unfold node_Split.f at h
  by_cases hv : valid a0_0 a0_1 l0_2 = false
  · rw [if_pos hv] at h
    simp only [Option.some.injEq, Prod.mk.injEq] at h
    obtain ⟨rfl, rfl, rfl, rfl, rfl, rfl, rfl, rfl⟩ := h
    exact (split_bad a0_0 a0_1 A0_2 c0_2 l0_2 w hr0_2 hc0_2 hv).mono fun e w' ⟨he, hb⟩ => ⟨_, _, he, Kd.V_nil _ _ _ _ _, Kd.V_nil _ _ _ _ _, hb⟩
  · rw [if_neg hv] at h
    rw [Bool.not_eq_false] at hv
    have hh := of_decide_eq_true ((valid_iff a0_0 a0_1 l0_2).mp hv).1
    by_cases h1 : l0_2.length = 1
    · rw [if_pos h1] at h
      simp only [Option.some.injEq, Prod.mk.injEq] at h
      obtain ⟨rfl, rfl, rfl, rfl, rfl, rfl, rfl, rfl⟩ := h
      exact (split_one a0_0 a0_1 A0_2 c0_2 l0_2 w hr0_2 hc0_2 hv h1).mono fun e w' ⟨he, hb⟩ => ⟨_, _, he, Kd.V_nil _ _ _ _ _, Kd.V_nil _ _ _ _ _, hb⟩
    · rw [if_neg h1] at h
      simp only [Option.some.injEq, Prod.mk.injEq] at h
      obtain ⟨rfl, rfl, rfl, rfl, rfl, rfl, rfl, rfl⟩ := h
      exact split_main a0_0 a0_1 A0_2 c0_2 l0_2 w hr0_2 hc0_2 hv (by omega) (by omega) _ rfl
end Go.Proofs.Ytffkgdaookidbaa.XNx
