/-
node.Insert at this dump, where it puts an entry in (behind another): what it answers.
-/
import Derived.Test.YtffkgdaookidbaaExtInsA
import Derived.Deep.RegionWith
import Derived.Deep.DrawnRows
set_option linter.unusedVariables false
set_option linter.unusedSimpArgs false
namespace Go.Proofs.Ytffkgdaookidbaa.XNx
open Go.RowKit Go.Proofs.YtffkgdaookidbaaW.PrintWords Go.Proofs.YtffkgdaookidbaaW.PrintLast Go.Proofs.YtffkgdaookidbaaW.PrintMore
open Go.Proofs.Ytffkgdaookidbaa.XW Go.Proofs.Ytffkgdaookidbaa.Base

attribute [local go_sem ↓] Go.wp_at_zero Go.wp_at_succ
set_option maxHeartbeats 4000000 in
set_option maxRecDepth 100000 in
theorem ins_m10 (a0_0 : Int) (a0_1 : Int) (A0_2 : Option Addr) (c0_2 : Nat) (l0_2 : List (S32)) (a1 : Int) (a2 : ByteArray) (a3 : Int) (w : World) (hr0_2 : Kd.C k32 w A0_2 l0_2.length l0_2) (hc0_2 : l0_2.length ≤ c0_2) (h : valid a0_0 a0_1 l0_2 = true) (hp : decide (1 ≤ a3 ∧ a3 ≤ 16777216) = true) (i : Nat) (ha1 : a1 = (i : Int)) (hi : i < l0_2.length) (c : a2.toList.isEmpty = false) (c2 : decide ((32 : Int) < (a2.size : Int)) = false) (m : Nat) (hm : i = m + 1) (c3 : Op.bytesLess (en l0_2 m).f0.toList a2.toList = true) (c4 : (en l0_2 i).f0.toList.isEmpty = true) (hnf : l0_2.length ≠ 120) (hnn : l0_2.length ≤ 120) :
    Calls Try.prog 13 #[.agg #[.int .i64 a0_0, .int .i64 a0_1, .slice A0_2 l0_2.length c0_2], .int .i64 a1, .string a2, .int .i64 a3] w fun e w' => ∃ v2_ : Value, e = .returned (.tuple #[.agg #[.int .i64 a0_0, .int .i64 a0_1, v2_], .int .i64 0]) ∧ Kd.R k32 32 w' w.heap.size (fun _ => True) v2_ ((l0_2.take i ++ ⟨a2, (en l0_2 i).f1⟩ :: l0_2.drop i).set (i + 1) ⟨(en l0_2 i).f0, a3⟩) ∧ Below w.heap.size w w' := by
  subst ha1
  have i0 : (0 : Int) ≤ (i : Int) := by omega
  have i1 : (i : Int) < (l0_2.length : Int) := by omega
  have i2 : decide ((i : Int) < 0) = false := decide_eq_false (by omega)
  have i3 : decide ((l0_2.length : Int) ≤ (i : Int)) = false := decide_eq_false (by omega)
  have hl := hr0_2.2.1
  have m0 : (0 : Int) ≤ (m : Int) := by omega
  have m1 : (m : Int) < (l0_2.length : Int) := by omega
  have hm1 : (i : Int) - 1 = (m : Int) := by omega
  have hm2 : decide ((0 : Int) < (i : Int)) = true := decide_eq_true (by omega)
  have hm3 : (0 < i) = True := eq_true (by omega)
  clear hm
  have hf : ((l0_2.length : Int) == 120) = false := beq_eq_false_iff_ne.mpr (by omega)
  have hf2 : (l0_2.length == 120) = false := beq_eq_false_iff_ne.mpr hnf
  have q1 : 1 ≤ l0_2.length := by omega
  have q1000 : l0_2.length ≤ 1000 := by omega
  have l120 : (l0_2.length : Int) ≤ 120 := by omega
  have hw1 : IntKind.i64.wrap ((i : Int) + 1) = (i : Int) + 1 := by rw [IntKind.wrap_i64]; omega
  have hip0 : (0 : Int) ≤ (i : Int) + 1 := by omega
  have hip1 : (i : Int) + 1 < ((l0_2.length + 1 : Nat) : Int) := by omega
  have hip2 : ((i : Int) + 1).toNat = i + 1 := by omega
  have hl' : (l0_2.take i ++ (⟨a2, (en l0_2 i).f1⟩ : S32) :: l0_2.drop i).length = l0_2.length + 1 := by simp; omega
  have hold := en_at l0_2 ⟨a2, (en l0_2 i).f1⟩ i hi
  have qi : i + 1 < l0_2.length + 1 := Nat.succ_lt_succ hi
  have qp : 0 < l0_2.length + 1 := Nat.succ_pos _
  obtain ⟨L', hLL, hlen', hold'⟩ : ∃ L' : List S32, L' = l0_2.take i ++ ⟨a2, (en l0_2 i).f1⟩ :: l0_2.drop i ∧ L'.length = l0_2.length + 1 ∧ en L' (i + 1) = en l0_2 i := ⟨_, rfl, hl', hold⟩
  have HLL := Aside0.mk hLL
  have HLEN := Aside0.mk hlen'
  have HOLD := Aside0.mk hold'
  clear hnf hnn hl' hold hLL hlen' hold'
  have hu24 := Try.underlying24
  have hu32 := Try.underlying32
  have HR := Aside0.mk hr0_2
  have HC := Aside0.mk hc0_2
  clear hr0_2 hc0_2
  go_enter Try.func13, Try.ntmps13
  go_wp2_with fail
  refine (plain_calls a0_0 a0_1 A0_2 c0_2 l0_2 _ (Kd.C_alloc (Kd.C_alloc HR.out _) _) HC.out).mono ?_
  rintro e w2 ⟨rfl, hb⟩
  obtain ⟨b1, b2, hB, hlt⟩ := two _ _ _ _ hb
  clear hb
  have HB := Aside0.mk hB
  have B1 := Aside0.mk b1
  have B2 := Aside0.mk b2
  have HLT := Aside0.mk hlt
  rw [h]
  have c10 := (blk_cell b1 0).trans rfl
  have c11 := (blk_cell b1 1).trans rfl
  have c12 := (blk_cell b1 2).trans rfl
  have c20 := (blk_cell b2 0).trans rfl
  have c21 := (blk_cell b2 1).trans rfl
  have c22 := (blk_cell b2 2).trans rfl
  have f20 := blk_frozen b2 0
  have f21 := blk_frozen b2 1
  have f22 := blk_frozen b2 2
  clear b1 b2 hB h hlt
  go_wp2_with fail
  refine (ispage_calls a3 _).mono ?_
  rintro e w3 ⟨rfl, hb⟩
  have HB3 := Aside0.mk (below_step HB.out hb)
  have BB1 := Aside0.mk (blk_below B1.out hb)
  have BB2 := Aside0.mk (blk_below B2.out hb)
  have HLT3 := Aside0.mk (Nat.lt_of_lt_of_le HLT.out (below_size hb))
  clear c10 c11 c12 c20 c21 c22 f20 f21 f22 hb B1 B2 HB HLT
  have c10 := (blk_cell BB1.out 0).trans rfl
  have c11 := (blk_cell BB1.out 1).trans rfl
  have c12 := (blk_cell BB1.out 2).trans rfl
  have c20 := (blk_cell BB2.out 0).trans rfl
  have c21 := (blk_cell BB2.out 1).trans rfl
  have c22 := (blk_cell BB2.out 2).trans rfl
  have f20 := blk_frozen BB2.out 0
  have f21 := blk_frozen BB2.out 1
  have f22 := blk_frozen BB2.out 2
  rw [hp]
  clear hp
  have n10 := World.new_ne w3 _ c10
  have n11 := World.new_ne w3 _ c11
  have n12 := World.new_ne w3 _ c12
  have n20 := World.new_ne w3 _ c20
  have n21 := World.new_ne w3 _ c21
  have n22 := World.new_ne w3 _ c22
  have af0 := blk_frozen (blk_alloc BB2.out (.cells #[.string (en l0_2 i).f0, .int .i64 (en l0_2 i).f1] 32)) 0
  have af1 := blk_frozen (blk_alloc BB2.out (.cells #[.string (en l0_2 i).f0, .int .i64 (en l0_2 i).f1] 32)) 1
  have af2 := blk_frozen (blk_alloc BB2.out (.cells #[.string (en l0_2 i).f0, .int .i64 (en l0_2 i).f1] 32)) 2
  have ac20 : (w3.alloc (.cells #[.string (en l0_2 i).f0, .int .i64 (en l0_2 i).f1] 32)).cell? ⟨w.heap.size + 1, 0, none⟩ = some (.int .i64 0) := (blk_cell (blk_alloc BB2.out (.cells #[.string (en l0_2 i).f0, .int .i64 (en l0_2 i).f1] 32)) 0).trans rfl
  have ac21 : (w3.alloc (.cells #[.string (en l0_2 i).f0, .int .i64 (en l0_2 i).f1] 32)).cell? ⟨w.heap.size + 1, 1, none⟩ = some (.int .i64 0) := (blk_cell (blk_alloc BB2.out (.cells #[.string (en l0_2 i).f0, .int .i64 (en l0_2 i).f1] 32)) 1).trans rfl
  have ac22 : (w3.alloc (.cells #[.string (en l0_2 i).f0, .int .i64 (en l0_2 i).f1] 32)).cell? ⟨w.heap.size + 1, 2, none⟩ = some (.slice none 0 0) := (blk_cell (blk_alloc BB2.out (.cells #[.string (en l0_2 i).f0, .int .i64 (en l0_2 i).f1] 32)) 2).trans rfl
  have ac10 : (w3.alloc (.cells #[.string (en l0_2 i).f0, .int .i64 (en l0_2 i).f1] 32)).cell? ⟨w.heap.size, 0, none⟩ = some (.int .i64 a0_0) := (blk_cell (blk_alloc BB1.out (.cells #[.string (en l0_2 i).f0, .int .i64 (en l0_2 i).f1] 32)) 0).trans rfl
  have ac11 : (w3.alloc (.cells #[.string (en l0_2 i).f0, .int .i64 (en l0_2 i).f1] 32)).cell? ⟨w.heap.size, 1, none⟩ = some (.int .i64 a0_1) := (blk_cell (blk_alloc BB1.out (.cells #[.string (en l0_2 i).f0, .int .i64 (en l0_2 i).f1] 32)) 1).trans rfl
  have ac12 : (w3.alloc (.cells #[.string (en l0_2 i).f0, .int .i64 (en l0_2 i).f1] 32)).cell? ⟨w.heap.size, 2, none⟩ = some (.slice A0_2 l0_2.length c0_2) := (blk_cell (blk_alloc BB1.out (.cells #[.string (en l0_2 i).f0, .int .i64 (en l0_2 i).f1] 32)) 2).trans rfl
  have HR3 := Aside0.mk (Kd.C_below HR.out HB3.out)
  obtain ⟨ad, ea, hx0, hx1⟩ := at_T32 HR3.out (i : Int) i0 i1
  subst ea
  rw [Int.toNat_natCast] at hx0 hx1
  have eo : rd_T32 l0_2 (i : Int) = en l0_2 i := rfl
  rw [eo] at hx0 hx1
  obtain ⟨ad', ea', hy0, hy1⟩ := at_T32 (Kd.C_alloc HR3.out (.cells #[.string (en l0_2 i).f0, .int .i64 (en l0_2 i).f1] 32)) (m : Int) m0 m1
  obtain rfl := Option.some.inj ea'
  rw [Int.toNat_natCast] at hy0 hy1
  have eo' : rd_T32 l0_2 (m : Int) = en l0_2 m := rfl
  rw [eo'] at hy0 hy1
  clear eo'
  clear eo
  go_wp2_with fail
  have E1 := Aside0.mk (blk_alloc BB1.out (.cells #[.string (en l0_2 i).f0, .int .i64 (en l0_2 i).f1] 32))
  have E2 := Aside0.mk (blk_alloc BB2.out (.cells #[.string (en l0_2 i).f0, .int .i64 (en l0_2 i).f1] 32))
  have E3 := Aside0.mk (blk_new w3 (.cells #[.string (en l0_2 i).f0, .int .i64 (en l0_2 i).f1] 32))
  have HB4 := Aside0.mk (below_alloc HB3.out (.cells #[.string (en l0_2 i).f0, .int .i64 (en l0_2 i).f1] 32))
  have HR4 := Aside0.mk (Kd.C_alloc HR3.out (.cells #[.string (en l0_2 i).f0, .int .i64 (en l0_2 i).f1] 32))
  have HM := Aside0.mk (show w3.heap.size < (w3.alloc (.cells #[.string (en l0_2 i).f0, .int .i64 (en l0_2 i).f1] 32)).heap.size by simp)
  clear c10 c11 c12 c20 c21 c22 f20 f21 f22 n10 n11 n12 n20 n21 n22 af0 af1 af2 ac10 ac11 ac12 ac20 ac21 ac22 hx0 hx1 BB1 BB2 HB3 HR3
  generalize (w3.alloc (.cells #[.string (en l0_2 i).f0, .int .i64 (en l0_2 i).f1] 32)) = w4 at E1 E2 E3 HB4 HR4 HM ⊢
  have s1 : w4.cell? ⟨w.heap.size, 2, none⟩ = some (.slice (some ad) l0_2.length c0_2) := (blk_cell E1.out 2).trans rfl
  have s2 : w4.cell? ⟨w3.heap.size, 1, none⟩ = some (.int .i64 (en l0_2 i).f1) := (blk_cell E3.out 1).trans rfl
  have s1n := World.new_ne w4 _ s1
  have s1a : (w4.alloc (.cells #[.string a2, .int .i64 (en l0_2 i).f1] 32)).drew.cell? ⟨w.heap.size, 2, none⟩ = some (.slice (some ad) l0_2.length c0_2) := (blk_cell (blk_drew (blk_alloc E1.out (.cells #[.string a2, .int .i64 (en l0_2 i).f1] 32))) 2).trans rfl
  have s1b : (w4.alloc (.cells #[.string a2, .int .i64 (en l0_2 i).f1] 32)).cell? ⟨w.heap.size, 2, none⟩ = some (.slice (some ad) l0_2.length c0_2) := (blk_cell (blk_alloc E1.out (.cells #[.string a2, .int .i64 (en l0_2 i).f1] 32)) 2).trans rfl
  have s1c : w4.drew.cell? ⟨w.heap.size, 2, none⟩ = some (.slice (some ad) l0_2.length c0_2) := s1
  have hNM : w.heap.size ≠ w3.heap.size := Nat.ne_of_lt (Nat.lt_of_lt_of_le (Nat.lt_succ_self _) (Nat.le_of_lt HLT3.out))
  have hMN : w3.heap.size ≠ w.heap.size := Ne.symm hNM
  have s2n := World.new_ne w4 _ s2
  have s2c : w4.drew.cell? ⟨w3.heap.size, 1, none⟩ = some (.int .i64 (en l0_2 i).f1) := s2
  go_region_with (first
    | ((with_reducible refine (clone_calls (some ad) c0_2 l0_2 _ ?hc HC.out q1 q1000).mono ?_); (case hc => repeat (first | (with_reducible exact HR4.out) | refine Kd.C_drew ?_ | refine Kd.C_alloc ?_ _)); rintro e w5 ⟨v, rfl, ho, hb⟩; obtain ⟨g, cp, rfl, hg1, hg2, _⟩ := Kd.R_form ho q1; have EE1 := Aside0.mk (blk_below (g := w.heap.size) (o := (.cells #[.int .i64 a0_0, .int .i64 a0_1, .slice (some ad) l0_2.length c0_2] 24 (0, 0))) (by repeat (first | (with_reducible exact E1.out) | refine blk_drew ?_ | refine blk_alloc ?_ _)) hb); have EE2 := Aside0.mk (blk_below (g := w.heap.size + 1) (o := (.cells #[.int .i64 0, .int .i64 0, .slice none 0 0] 24 (0, 0))) (by repeat (first | (with_reducible exact E2.out) | refine blk_drew ?_ | refine blk_alloc ?_ _)) hb); have EE3 := Aside0.mk (blk_below (g := w3.heap.size) (o := (.cells #[.string (en l0_2 i).f0, .int .i64 (en l0_2 i).f1] 32 (0, 0))) (by repeat (first | (with_reducible exact E3.out) | refine blk_drew ?_ | refine blk_alloc ?_ _)) hb); have HB5 := Aside0.mk (below_step (w := w) (by repeat (first | (with_reducible exact HB4.out) | refine below_drew ?_ | refine below_alloc ?_ _)) hb); have HO := Aside0.mk (Kd.R_lower ho (below_size (w := w) (by repeat (first | (with_reducible exact HB4.out) | refine below_drew ?_ | refine below_alloc ?_ _)))); (first | (with_reducible have HV := Aside0.mk (blk_below (g := w4.heap.size) (blk_alloc_drew w4 (.cells #[.string a2, .int .i64 (en l0_2 i).f1] 32 (0, 0))) hb)) | (with_reducible have HV := Aside0.mk (blk_below (g := w4.heap.size) (blk_drew_alloc w4 (.cells #[.string a2, .int .i64 (en l0_2 i).f1] 32 (0, 0))) hb)) | skip); (first | (with_reducible have HNE := Aside0.mk (Nat.ne_of_lt (Nat.lt_of_lt_of_le (alloc_drew_lt w4 _) hg1))) | (with_reducible have HNE := Aside0.mk (Nat.ne_of_lt (Nat.lt_of_lt_of_le (drew_alloc_lt w4 _) hg1))) | skip); have HG1 := Aside0.mk (Nat.le_trans (below_size (w := w) (by repeat (first | (with_reducible exact HB4.out) | refine below_drew ?_ | refine below_alloc ?_ _))) hg1); have HG0 := Aside0.mk (Nat.lt_of_lt_of_le (Nat.lt_of_lt_of_le HM.out (by first | (with_reducible exact drew_le _) | (with_reducible exact Nat.le_of_lt (alloc_drew_lt _ _)) | (with_reducible exact Nat.le_of_lt (drew_alloc_lt _ _)))) hg1); have HG2 := Aside0.mk hg2; have s1' := (blk_cell EE1.out 2).trans rfl; have s2' := (blk_cell EE3.out 1).trans rfl; have s1n' := World.new_ne w5 _ s1'; have s2n' := World.new_ne w5 _ s2'; clear ho hb hg1 hg2)
    | ((with_reducible refine (insert_calls w.heap.size g cp l0_2 i ⟨a2, (en l0_2 i).f1⟩ _ _ ?hr ?hv ?hne hi q1000).mono ?_); (case hr => repeat (first | (with_reducible exact HO.out) | refine Kd.R_drew ?_ | refine Kd.R_alloc ?_ _)); (case hv => first | (with_reducible exact HV.out) | (with_reducible exact blk_new _ _) | exact blk_drew (blk_new _ _)); (case hne => first | (with_reducible exact HNE.out) | exact Nat.ne_of_gt HG2.out); rintro e w6 ⟨v6, rfl, ho6, hgr⟩; rw [← HLL.out] at ho6; obtain ⟨g6, c6, rfl, hg61, hg62, _⟩ := Kd.R_form ho6 (by rw [HLEN.out]; exact qp); rw [HLEN.out] at ho6 ⊢; have FF1 := Aside0.mk (blk_grown (g := w.heap.size) (o := (.cells #[.int .i64 a0_0, .int .i64 a0_1, .slice (some ad) l0_2.length c0_2] 24 (0, 0))) (by repeat (first | (with_reducible exact EE1.out) | refine blk_drew ?_ | refine blk_alloc ?_ _)) hgr (nx w.heap.size w3.heap.size g HLT3.out HG0.out).1); have FF2 := Aside0.mk (blk_grown (g := w.heap.size + 1) (o := (.cells #[.int .i64 0, .int .i64 0, .slice none 0 0] 24 (0, 0))) (by repeat (first | (with_reducible exact EE2.out) | refine blk_drew ?_ | refine blk_alloc ?_ _)) hgr (nx w.heap.size w3.heap.size g HLT3.out HG0.out).2.1); have FF3 := Aside0.mk (blk_grown (g := w3.heap.size) (o := (.cells #[.string (en l0_2 i).f0, .int .i64 (en l0_2 i).f1] 32 (0, 0))) (by repeat (first | (with_reducible exact EE3.out) | refine blk_drew ?_ | refine blk_alloc ?_ _)) hgr (nx w.heap.size w3.heap.size g HLT3.out HG0.out).2.2); have HB6 := Aside0.mk (grown_below (w0 := w) (B := w.heap.size) (by repeat (first | (with_reducible exact HB5.out) | refine below_drew ?_ | refine below_alloc ?_ _)) hgr HG1.out (below_size (w := w) (by repeat (first | (with_reducible exact HB5.out) | refine below_drew ?_ | refine below_alloc ?_ _)))); have HO6 := Aside0.mk ho6; have s1'' := (blk_cell FF1.out 2).trans rfl; have s2'' := (blk_cell FF3.out 1).trans rfl; have f1'' := blk_frozen FF1.out 2; clear ho6 hgr))
  all_goals
    have NG := Aside0.mk (show w.heap.size ≠ g6 from fun h_ => Kd.R_ne HO6.out FF1.out (by decide) (by rw [h_]; rfl))
    have NG2 := Aside0.mk (show w.heap.size + 1 ≠ g6 from fun h_ => Kd.R_ne HO6.out FF2.out (by decide) (by rw [h_]; rfl))
    have HO7 := Aside0.mk (Kd.R_set HO6.out FF1.out ht24 2 (.slice (some ⟨g6, 0, none⟩) (l0_2.length + 1) c6))
    have D1 := Aside0.mk (blk_put FF1.out 2 (.slice (some ⟨g6, 0, none⟩) (l0_2.length + 1) c6) rfl)
    have D2 := Aside0.mk (blk_far FF2.out (p := ⟨w.heap.size, 2, none⟩) (Nat.succ_ne_self _) (.slice (some ⟨g6, 0, none⟩) (l0_2.length + 1) c6))
    have HB7 := Aside0.mk (below_set (j := 2) (v := .slice (some ⟨g6, 0, none⟩) (l0_2.length + 1) c6) HB6.out (Nat.le_refl _))
    clear s1 s2 s1n s2n s1a s1b s1c s2c s1' s2' s1n' s2n' s1'' s2'' f1'' HO6 FF1 FF2 FF3 HB6 EE1 EE2 EE3 HB5 HO
    generalize w6.setCell ⟨w.heap.size, 2, none⟩ (.slice (some ⟨g6, 0, none⟩) (l0_2.length + 1) c6) = w7 at HO7 D1 D2 HB7 ⊢
    obtain ⟨ce, _, hM, hcc, hfr⟩ := Kd.R_elem HO7.out z32 ((i + 1 : Nat) : Int) (Int.natCast_nonneg _) (Int.ofNat_lt.mpr qi)
    obtain rfl := k32_openM hM
    have p0 : w7.cell? ⟨g6, (i + 1) * 2 + 1, none⟩ = some (.int .i64 (en L' (i + 1)).f1) := hcc 1 _ rfl
    have pf : w7.frozen? ⟨g6, (i + 1) * 2 + 1, none⟩ = false := hfr 1
    clear hcc hfr hM
    have c10 := (blk_cell D1.out 0).trans rfl
    have c11 := (blk_cell D1.out 1).trans rfl
    have c12 := (blk_cell D1.out 2).trans rfl
    have c20 := (blk_cell D2.out 0).trans rfl
    have c21 := (blk_cell D2.out 1).trans rfl
    have c22 := (blk_cell D2.out 2).trans rfl
    have f20 := blk_frozen D2.out 0
    have f21 := blk_frozen D2.out 1
    have f22 := blk_frozen D2.out 2
    have ng := NG.out
    have ng' := Ne.symm NG.out
    have ng2 := NG2.out
    have ng2' := Ne.symm NG2.out
    go_wp2
    have FIN := ins_fin (page := a3) HO7.out HLEN.out D2.out NG2.out qi (.int .i64 a0_0) (.int .i64 a0_1) (.slice (some ⟨g6, 0, none⟩) (l0_2.length + 1) c6)
    rw [HOLD.out, HLL.out] at FIN
    refine bodyPost_ret (results_list (rs := [.cell 8 24, .tmp 9]) rfl (by simp) (.cell (w.heap.size + 1) 24 _ (0, 0) _ rfl FIN.2 hu24 rfl (by kernel_rfl) (.tmp .nil))) rfl ?_
    exact ⟨_, rfl, FIN.1, three_below (below_set (j := (i + 1) * 2 + 1) (v := .int .i64 a3) HB7.out hg61) (Nat.le_add_right _ 1) _ _ _⟩
set_option maxHeartbeats 4000000 in
set_option maxRecDepth 100000 in
theorem ins_m11 (a0_0 : Int) (a0_1 : Int) (A0_2 : Option Addr) (c0_2 : Nat) (l0_2 : List (S32)) (a1 : Int) (a2 : ByteArray) (a3 : Int) (w : World) (hr0_2 : Kd.C k32 w A0_2 l0_2.length l0_2) (hc0_2 : l0_2.length ≤ c0_2) (h : valid a0_0 a0_1 l0_2 = true) (hp : decide (1 ≤ a3 ∧ a3 ≤ 16777216) = true) (i : Nat) (ha1 : a1 = (i : Int)) (hi : i < l0_2.length) (c : a2.toList.isEmpty = false) (c2 : decide ((32 : Int) < (a2.size : Int)) = false) (m : Nat) (hm : i = m + 1) (c3 : Op.bytesLess (en l0_2 m).f0.toList a2.toList = true) (c4 : (en l0_2 i).f0.toList.isEmpty = false) (c5 : Op.bytesLess a2.toList (en l0_2 i).f0.toList = true) (hnf : l0_2.length ≠ 120) (hnn : l0_2.length ≤ 120) :
    Calls Try.prog 13 #[.agg #[.int .i64 a0_0, .int .i64 a0_1, .slice A0_2 l0_2.length c0_2], .int .i64 a1, .string a2, .int .i64 a3] w fun e w' => ∃ v2_ : Value, e = .returned (.tuple #[.agg #[.int .i64 a0_0, .int .i64 a0_1, v2_], .int .i64 0]) ∧ Kd.R k32 32 w' w.heap.size (fun _ => True) v2_ ((l0_2.take i ++ ⟨a2, (en l0_2 i).f1⟩ :: l0_2.drop i).set (i + 1) ⟨(en l0_2 i).f0, a3⟩) ∧ Below w.heap.size w w' := by
  subst ha1
  have i0 : (0 : Int) ≤ (i : Int) := by omega
  have i1 : (i : Int) < (l0_2.length : Int) := by omega
  have i2 : decide ((i : Int) < 0) = false := decide_eq_false (by omega)
  have i3 : decide ((l0_2.length : Int) ≤ (i : Int)) = false := decide_eq_false (by omega)
  have hl := hr0_2.2.1
  have m0 : (0 : Int) ≤ (m : Int) := by omega
  have m1 : (m : Int) < (l0_2.length : Int) := by omega
  have hm1 : (i : Int) - 1 = (m : Int) := by omega
  have hm2 : decide ((0 : Int) < (i : Int)) = true := decide_eq_true (by omega)
  have hm3 : (0 < i) = True := eq_true (by omega)
  clear hm
  have hf : ((l0_2.length : Int) == 120) = false := beq_eq_false_iff_ne.mpr (by omega)
  have hf2 : (l0_2.length == 120) = false := beq_eq_false_iff_ne.mpr hnf
  have q1 : 1 ≤ l0_2.length := by omega
  have q1000 : l0_2.length ≤ 1000 := by omega
  have l120 : (l0_2.length : Int) ≤ 120 := by omega
  have hw1 : IntKind.i64.wrap ((i : Int) + 1) = (i : Int) + 1 := by rw [IntKind.wrap_i64]; omega
  have hip0 : (0 : Int) ≤ (i : Int) + 1 := by omega
  have hip1 : (i : Int) + 1 < ((l0_2.length + 1 : Nat) : Int) := by omega
  have hip2 : ((i : Int) + 1).toNat = i + 1 := by omega
  have hl' : (l0_2.take i ++ (⟨a2, (en l0_2 i).f1⟩ : S32) :: l0_2.drop i).length = l0_2.length + 1 := by simp; omega
  have hold := en_at l0_2 ⟨a2, (en l0_2 i).f1⟩ i hi
  have qi : i + 1 < l0_2.length + 1 := Nat.succ_lt_succ hi
  have qp : 0 < l0_2.length + 1 := Nat.succ_pos _
  obtain ⟨L', hLL, hlen', hold'⟩ : ∃ L' : List S32, L' = l0_2.take i ++ ⟨a2, (en l0_2 i).f1⟩ :: l0_2.drop i ∧ L'.length = l0_2.length + 1 ∧ en L' (i + 1) = en l0_2 i := ⟨_, rfl, hl', hold⟩
  have HLL := Aside0.mk hLL
  have HLEN := Aside0.mk hlen'
  have HOLD := Aside0.mk hold'
  clear hnf hnn hl' hold hLL hlen' hold'
  have hu24 := Try.underlying24
  have hu32 := Try.underlying32
  have HR := Aside0.mk hr0_2
  have HC := Aside0.mk hc0_2
  clear hr0_2 hc0_2
  go_enter Try.func13, Try.ntmps13
  go_wp2_with fail
  refine (plain_calls a0_0 a0_1 A0_2 c0_2 l0_2 _ (Kd.C_alloc (Kd.C_alloc HR.out _) _) HC.out).mono ?_
  rintro e w2 ⟨rfl, hb⟩
  obtain ⟨b1, b2, hB, hlt⟩ := two _ _ _ _ hb
  clear hb
  have HB := Aside0.mk hB
  have B1 := Aside0.mk b1
  have B2 := Aside0.mk b2
  have HLT := Aside0.mk hlt
  rw [h]
  have c10 := (blk_cell b1 0).trans rfl
  have c11 := (blk_cell b1 1).trans rfl
  have c12 := (blk_cell b1 2).trans rfl
  have c20 := (blk_cell b2 0).trans rfl
  have c21 := (blk_cell b2 1).trans rfl
  have c22 := (blk_cell b2 2).trans rfl
  have f20 := blk_frozen b2 0
  have f21 := blk_frozen b2 1
  have f22 := blk_frozen b2 2
  clear b1 b2 hB h hlt
  go_wp2_with fail
  refine (ispage_calls a3 _).mono ?_
  rintro e w3 ⟨rfl, hb⟩
  have HB3 := Aside0.mk (below_step HB.out hb)
  have BB1 := Aside0.mk (blk_below B1.out hb)
  have BB2 := Aside0.mk (blk_below B2.out hb)
  have HLT3 := Aside0.mk (Nat.lt_of_lt_of_le HLT.out (below_size hb))
  clear c10 c11 c12 c20 c21 c22 f20 f21 f22 hb B1 B2 HB HLT
  have c10 := (blk_cell BB1.out 0).trans rfl
  have c11 := (blk_cell BB1.out 1).trans rfl
  have c12 := (blk_cell BB1.out 2).trans rfl
  have c20 := (blk_cell BB2.out 0).trans rfl
  have c21 := (blk_cell BB2.out 1).trans rfl
  have c22 := (blk_cell BB2.out 2).trans rfl
  have f20 := blk_frozen BB2.out 0
  have f21 := blk_frozen BB2.out 1
  have f22 := blk_frozen BB2.out 2
  rw [hp]
  clear hp
  have n10 := World.new_ne w3 _ c10
  have n11 := World.new_ne w3 _ c11
  have n12 := World.new_ne w3 _ c12
  have n20 := World.new_ne w3 _ c20
  have n21 := World.new_ne w3 _ c21
  have n22 := World.new_ne w3 _ c22
  have af0 := blk_frozen (blk_alloc BB2.out (.cells #[.string (en l0_2 i).f0, .int .i64 (en l0_2 i).f1] 32)) 0
  have af1 := blk_frozen (blk_alloc BB2.out (.cells #[.string (en l0_2 i).f0, .int .i64 (en l0_2 i).f1] 32)) 1
  have af2 := blk_frozen (blk_alloc BB2.out (.cells #[.string (en l0_2 i).f0, .int .i64 (en l0_2 i).f1] 32)) 2
  have ac20 : (w3.alloc (.cells #[.string (en l0_2 i).f0, .int .i64 (en l0_2 i).f1] 32)).cell? ⟨w.heap.size + 1, 0, none⟩ = some (.int .i64 0) := (blk_cell (blk_alloc BB2.out (.cells #[.string (en l0_2 i).f0, .int .i64 (en l0_2 i).f1] 32)) 0).trans rfl
  have ac21 : (w3.alloc (.cells #[.string (en l0_2 i).f0, .int .i64 (en l0_2 i).f1] 32)).cell? ⟨w.heap.size + 1, 1, none⟩ = some (.int .i64 0) := (blk_cell (blk_alloc BB2.out (.cells #[.string (en l0_2 i).f0, .int .i64 (en l0_2 i).f1] 32)) 1).trans rfl
  have ac22 : (w3.alloc (.cells #[.string (en l0_2 i).f0, .int .i64 (en l0_2 i).f1] 32)).cell? ⟨w.heap.size + 1, 2, none⟩ = some (.slice none 0 0) := (blk_cell (blk_alloc BB2.out (.cells #[.string (en l0_2 i).f0, .int .i64 (en l0_2 i).f1] 32)) 2).trans rfl
  have ac10 : (w3.alloc (.cells #[.string (en l0_2 i).f0, .int .i64 (en l0_2 i).f1] 32)).cell? ⟨w.heap.size, 0, none⟩ = some (.int .i64 a0_0) := (blk_cell (blk_alloc BB1.out (.cells #[.string (en l0_2 i).f0, .int .i64 (en l0_2 i).f1] 32)) 0).trans rfl
  have ac11 : (w3.alloc (.cells #[.string (en l0_2 i).f0, .int .i64 (en l0_2 i).f1] 32)).cell? ⟨w.heap.size, 1, none⟩ = some (.int .i64 a0_1) := (blk_cell (blk_alloc BB1.out (.cells #[.string (en l0_2 i).f0, .int .i64 (en l0_2 i).f1] 32)) 1).trans rfl
  have ac12 : (w3.alloc (.cells #[.string (en l0_2 i).f0, .int .i64 (en l0_2 i).f1] 32)).cell? ⟨w.heap.size, 2, none⟩ = some (.slice A0_2 l0_2.length c0_2) := (blk_cell (blk_alloc BB1.out (.cells #[.string (en l0_2 i).f0, .int .i64 (en l0_2 i).f1] 32)) 2).trans rfl
  have HR3 := Aside0.mk (Kd.C_below HR.out HB3.out)
  obtain ⟨ad, ea, hx0, hx1⟩ := at_T32 HR3.out (i : Int) i0 i1
  subst ea
  rw [Int.toNat_natCast] at hx0 hx1
  have eo : rd_T32 l0_2 (i : Int) = en l0_2 i := rfl
  rw [eo] at hx0 hx1
  obtain ⟨ad', ea', hy0, hy1⟩ := at_T32 (Kd.C_alloc HR3.out (.cells #[.string (en l0_2 i).f0, .int .i64 (en l0_2 i).f1] 32)) (m : Int) m0 m1
  obtain rfl := Option.some.inj ea'
  rw [Int.toNat_natCast] at hy0 hy1
  have eo' : rd_T32 l0_2 (m : Int) = en l0_2 m := rfl
  rw [eo'] at hy0 hy1
  clear eo'
  clear eo
  go_wp2_with fail
  have E1 := Aside0.mk (blk_alloc BB1.out (.cells #[.string (en l0_2 i).f0, .int .i64 (en l0_2 i).f1] 32))
  have E2 := Aside0.mk (blk_alloc BB2.out (.cells #[.string (en l0_2 i).f0, .int .i64 (en l0_2 i).f1] 32))
  have E3 := Aside0.mk (blk_new w3 (.cells #[.string (en l0_2 i).f0, .int .i64 (en l0_2 i).f1] 32))
  have HB4 := Aside0.mk (below_alloc HB3.out (.cells #[.string (en l0_2 i).f0, .int .i64 (en l0_2 i).f1] 32))
  have HR4 := Aside0.mk (Kd.C_alloc HR3.out (.cells #[.string (en l0_2 i).f0, .int .i64 (en l0_2 i).f1] 32))
  have HM := Aside0.mk (show w3.heap.size < (w3.alloc (.cells #[.string (en l0_2 i).f0, .int .i64 (en l0_2 i).f1] 32)).heap.size by simp)
  clear c10 c11 c12 c20 c21 c22 f20 f21 f22 n10 n11 n12 n20 n21 n22 af0 af1 af2 ac10 ac11 ac12 ac20 ac21 ac22 hx0 hx1 BB1 BB2 HB3 HR3
  generalize (w3.alloc (.cells #[.string (en l0_2 i).f0, .int .i64 (en l0_2 i).f1] 32)) = w4 at E1 E2 E3 HB4 HR4 HM ⊢
  have s1 : w4.cell? ⟨w.heap.size, 2, none⟩ = some (.slice (some ad) l0_2.length c0_2) := (blk_cell E1.out 2).trans rfl
  have s2 : w4.cell? ⟨w3.heap.size, 1, none⟩ = some (.int .i64 (en l0_2 i).f1) := (blk_cell E3.out 1).trans rfl
  have s1n := World.new_ne w4 _ s1
  have s1a : (w4.alloc (.cells #[.string a2, .int .i64 (en l0_2 i).f1] 32)).drew.cell? ⟨w.heap.size, 2, none⟩ = some (.slice (some ad) l0_2.length c0_2) := (blk_cell (blk_drew (blk_alloc E1.out (.cells #[.string a2, .int .i64 (en l0_2 i).f1] 32))) 2).trans rfl
  have s1b : (w4.alloc (.cells #[.string a2, .int .i64 (en l0_2 i).f1] 32)).cell? ⟨w.heap.size, 2, none⟩ = some (.slice (some ad) l0_2.length c0_2) := (blk_cell (blk_alloc E1.out (.cells #[.string a2, .int .i64 (en l0_2 i).f1] 32)) 2).trans rfl
  have s1c : w4.drew.cell? ⟨w.heap.size, 2, none⟩ = some (.slice (some ad) l0_2.length c0_2) := s1
  have hNM : w.heap.size ≠ w3.heap.size := Nat.ne_of_lt (Nat.lt_of_lt_of_le (Nat.lt_succ_self _) (Nat.le_of_lt HLT3.out))
  have hMN : w3.heap.size ≠ w.heap.size := Ne.symm hNM
  have s2n := World.new_ne w4 _ s2
  have s2c : w4.drew.cell? ⟨w3.heap.size, 1, none⟩ = some (.int .i64 (en l0_2 i).f1) := s2
  go_region_with (first
    | ((with_reducible refine (clone_calls (some ad) c0_2 l0_2 _ ?hc HC.out q1 q1000).mono ?_); (case hc => repeat (first | (with_reducible exact HR4.out) | refine Kd.C_drew ?_ | refine Kd.C_alloc ?_ _)); rintro e w5 ⟨v, rfl, ho, hb⟩; obtain ⟨g, cp, rfl, hg1, hg2, _⟩ := Kd.R_form ho q1; have EE1 := Aside0.mk (blk_below (g := w.heap.size) (o := (.cells #[.int .i64 a0_0, .int .i64 a0_1, .slice (some ad) l0_2.length c0_2] 24 (0, 0))) (by repeat (first | (with_reducible exact E1.out) | refine blk_drew ?_ | refine blk_alloc ?_ _)) hb); have EE2 := Aside0.mk (blk_below (g := w.heap.size + 1) (o := (.cells #[.int .i64 0, .int .i64 0, .slice none 0 0] 24 (0, 0))) (by repeat (first | (with_reducible exact E2.out) | refine blk_drew ?_ | refine blk_alloc ?_ _)) hb); have EE3 := Aside0.mk (blk_below (g := w3.heap.size) (o := (.cells #[.string (en l0_2 i).f0, .int .i64 (en l0_2 i).f1] 32 (0, 0))) (by repeat (first | (with_reducible exact E3.out) | refine blk_drew ?_ | refine blk_alloc ?_ _)) hb); have HB5 := Aside0.mk (below_step (w := w) (by repeat (first | (with_reducible exact HB4.out) | refine below_drew ?_ | refine below_alloc ?_ _)) hb); have HO := Aside0.mk (Kd.R_lower ho (below_size (w := w) (by repeat (first | (with_reducible exact HB4.out) | refine below_drew ?_ | refine below_alloc ?_ _)))); (first | (with_reducible have HV := Aside0.mk (blk_below (g := w4.heap.size) (blk_alloc_drew w4 (.cells #[.string a2, .int .i64 (en l0_2 i).f1] 32 (0, 0))) hb)) | (with_reducible have HV := Aside0.mk (blk_below (g := w4.heap.size) (blk_drew_alloc w4 (.cells #[.string a2, .int .i64 (en l0_2 i).f1] 32 (0, 0))) hb)) | skip); (first | (with_reducible have HNE := Aside0.mk (Nat.ne_of_lt (Nat.lt_of_lt_of_le (alloc_drew_lt w4 _) hg1))) | (with_reducible have HNE := Aside0.mk (Nat.ne_of_lt (Nat.lt_of_lt_of_le (drew_alloc_lt w4 _) hg1))) | skip); have HG1 := Aside0.mk (Nat.le_trans (below_size (w := w) (by repeat (first | (with_reducible exact HB4.out) | refine below_drew ?_ | refine below_alloc ?_ _))) hg1); have HG0 := Aside0.mk (Nat.lt_of_lt_of_le (Nat.lt_of_lt_of_le HM.out (by first | (with_reducible exact drew_le _) | (with_reducible exact Nat.le_of_lt (alloc_drew_lt _ _)) | (with_reducible exact Nat.le_of_lt (drew_alloc_lt _ _)))) hg1); have HG2 := Aside0.mk hg2; have s1' := (blk_cell EE1.out 2).trans rfl; have s2' := (blk_cell EE3.out 1).trans rfl; have s1n' := World.new_ne w5 _ s1'; have s2n' := World.new_ne w5 _ s2'; clear ho hb hg1 hg2)
    | ((with_reducible refine (insert_calls w.heap.size g cp l0_2 i ⟨a2, (en l0_2 i).f1⟩ _ _ ?hr ?hv ?hne hi q1000).mono ?_); (case hr => repeat (first | (with_reducible exact HO.out) | refine Kd.R_drew ?_ | refine Kd.R_alloc ?_ _)); (case hv => first | (with_reducible exact HV.out) | (with_reducible exact blk_new _ _) | exact blk_drew (blk_new _ _)); (case hne => first | (with_reducible exact HNE.out) | exact Nat.ne_of_gt HG2.out); rintro e w6 ⟨v6, rfl, ho6, hgr⟩; rw [← HLL.out] at ho6; obtain ⟨g6, c6, rfl, hg61, hg62, _⟩ := Kd.R_form ho6 (by rw [HLEN.out]; exact qp); rw [HLEN.out] at ho6 ⊢; have FF1 := Aside0.mk (blk_grown (g := w.heap.size) (o := (.cells #[.int .i64 a0_0, .int .i64 a0_1, .slice (some ad) l0_2.length c0_2] 24 (0, 0))) (by repeat (first | (with_reducible exact EE1.out) | refine blk_drew ?_ | refine blk_alloc ?_ _)) hgr (nx w.heap.size w3.heap.size g HLT3.out HG0.out).1); have FF2 := Aside0.mk (blk_grown (g := w.heap.size + 1) (o := (.cells #[.int .i64 0, .int .i64 0, .slice none 0 0] 24 (0, 0))) (by repeat (first | (with_reducible exact EE2.out) | refine blk_drew ?_ | refine blk_alloc ?_ _)) hgr (nx w.heap.size w3.heap.size g HLT3.out HG0.out).2.1); have FF3 := Aside0.mk (blk_grown (g := w3.heap.size) (o := (.cells #[.string (en l0_2 i).f0, .int .i64 (en l0_2 i).f1] 32 (0, 0))) (by repeat (first | (with_reducible exact EE3.out) | refine blk_drew ?_ | refine blk_alloc ?_ _)) hgr (nx w.heap.size w3.heap.size g HLT3.out HG0.out).2.2); have HB6 := Aside0.mk (grown_below (w0 := w) (B := w.heap.size) (by repeat (first | (with_reducible exact HB5.out) | refine below_drew ?_ | refine below_alloc ?_ _)) hgr HG1.out (below_size (w := w) (by repeat (first | (with_reducible exact HB5.out) | refine below_drew ?_ | refine below_alloc ?_ _)))); have HO6 := Aside0.mk ho6; have s1'' := (blk_cell FF1.out 2).trans rfl; have s2'' := (blk_cell FF3.out 1).trans rfl; have f1'' := blk_frozen FF1.out 2; clear ho6 hgr))
  all_goals
    have NG := Aside0.mk (show w.heap.size ≠ g6 from fun h_ => Kd.R_ne HO6.out FF1.out (by decide) (by rw [h_]; rfl))
    have NG2 := Aside0.mk (show w.heap.size + 1 ≠ g6 from fun h_ => Kd.R_ne HO6.out FF2.out (by decide) (by rw [h_]; rfl))
    have HO7 := Aside0.mk (Kd.R_set HO6.out FF1.out ht24 2 (.slice (some ⟨g6, 0, none⟩) (l0_2.length + 1) c6))
    have D1 := Aside0.mk (blk_put FF1.out 2 (.slice (some ⟨g6, 0, none⟩) (l0_2.length + 1) c6) rfl)
    have D2 := Aside0.mk (blk_far FF2.out (p := ⟨w.heap.size, 2, none⟩) (Nat.succ_ne_self _) (.slice (some ⟨g6, 0, none⟩) (l0_2.length + 1) c6))
    have HB7 := Aside0.mk (below_set (j := 2) (v := .slice (some ⟨g6, 0, none⟩) (l0_2.length + 1) c6) HB6.out (Nat.le_refl _))
    clear s1 s2 s1n s2n s1a s1b s1c s2c s1' s2' s1n' s2n' s1'' s2'' f1'' HO6 FF1 FF2 FF3 HB6 EE1 EE2 EE3 HB5 HO
    generalize w6.setCell ⟨w.heap.size, 2, none⟩ (.slice (some ⟨g6, 0, none⟩) (l0_2.length + 1) c6) = w7 at HO7 D1 D2 HB7 ⊢
    obtain ⟨ce, _, hM, hcc, hfr⟩ := Kd.R_elem HO7.out z32 ((i + 1 : Nat) : Int) (Int.natCast_nonneg _) (Int.ofNat_lt.mpr qi)
    obtain rfl := k32_openM hM
    have p0 : w7.cell? ⟨g6, (i + 1) * 2 + 1, none⟩ = some (.int .i64 (en L' (i + 1)).f1) := hcc 1 _ rfl
    have pf : w7.frozen? ⟨g6, (i + 1) * 2 + 1, none⟩ = false := hfr 1
    clear hcc hfr hM
    have c10 := (blk_cell D1.out 0).trans rfl
    have c11 := (blk_cell D1.out 1).trans rfl
    have c12 := (blk_cell D1.out 2).trans rfl
    have c20 := (blk_cell D2.out 0).trans rfl
    have c21 := (blk_cell D2.out 1).trans rfl
    have c22 := (blk_cell D2.out 2).trans rfl
    have f20 := blk_frozen D2.out 0
    have f21 := blk_frozen D2.out 1
    have f22 := blk_frozen D2.out 2
    have ng := NG.out
    have ng' := Ne.symm NG.out
    have ng2 := NG2.out
    have ng2' := Ne.symm NG2.out
    go_wp2
    have FIN := ins_fin (page := a3) HO7.out HLEN.out D2.out NG2.out qi (.int .i64 a0_0) (.int .i64 a0_1) (.slice (some ⟨g6, 0, none⟩) (l0_2.length + 1) c6)
    rw [HOLD.out, HLL.out] at FIN
    refine bodyPost_ret (results_list (rs := [.cell 8 24, .tmp 9]) rfl (by simp) (.cell (w.heap.size + 1) 24 _ (0, 0) _ rfl FIN.2 hu24 rfl (by kernel_rfl) (.tmp .nil))) rfl ?_
    exact ⟨_, rfl, FIN.1, three_below (below_set (j := (i + 1) * 2 + 1) (v := .int .i64 a3) HB7.out hg61) (Nat.le_add_right _ 1) _ _ _⟩
end Go.Proofs.Ytffkgdaookidbaa.XNx
