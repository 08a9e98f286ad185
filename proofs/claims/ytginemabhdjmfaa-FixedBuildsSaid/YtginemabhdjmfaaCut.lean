/-
Plain laws on the records of a block: what the printed functions Unpack of chapter 10 (the program's and the reference's) answer.
-/
import Derived.Test.YtginemabhdjmfaaBase
import Derived.Test.YtginemabhdjmfaaXFx7
import Derived.Test.YtginemabhdjmfaaXFx10
set_option linter.unusedVariables false
namespace Go.Proofs.Ytginemabhdjmfaa.Base
open Go.RowKit Go.Proofs.Ytginemabhdjmfaa.XFx Go.Proofs.YtginemabhdjmfaaW.PrintWords Go.Proofs.YtginemabhdjmfaaW.PrintLast Go.Proofs.YtginemabhdjmfaaW.PrintMore

theorem ext_data (d : ByteArray) (i j : Nat) : (d.extract i j).data.toList = (d.data.toList.drop i).take (j - i) := by
  rw [ByteArray.data_extract, Array.toList_extract, List.extract_eq_take_drop]
theorem ext_size (d : ByteArray) (i j : Nat) (h : j ≤ d.size) : (d.extract i j).size = j - i := by
  rw [ByteArray.size_extract]
  omega
/-- The first n pieces of A bytes. -/
def pcs (A : Nat) (d : ByteArray) : Nat → List ByteArray
  | 0 => []
  | n + 1 => pcs A d n ++ [d.extract (n * A) ((n + 1) * A)]
theorem pcs_length (A : Nat) (d : ByteArray) : ∀ n, (pcs A d n).length = n
  | 0 => rfl
  | n + 1 => by rw [pcs, List.length_append, pcs_length A d n]; rfl
theorem pcs_size (A : Nat) (d : ByteArray) : ∀ n, n * A ≤ d.size → ∀ x ∈ pcs A d n, x.size = A
  | 0, _, x, hx => by cases hx
  | n + 1, h, x, hx => by
    have h' := h
    rw [Nat.succ_mul] at h'
    rw [pcs, List.mem_append] at hx
    rcases hx with hx | hx
    · exact pcs_size A d n (by omega) x hx
    · rw [List.mem_singleton] at hx
      rw [hx, ext_size _ _ _ h, Nat.succ_mul]
      omega
theorem pcs_cat (A : Nat) (d : ByteArray) : ∀ n, (cat (pcs A d n)).data.toList = d.data.toList.take (n * A)
  | 0 => by simp [pcs, cat_nil]
  | n + 1 => by
    rw [pcs, cat_snoc, app_data, pcs_cat A d n, ext_data, Nat.succ_mul, List.take_add]
    congr 2
    omega
theorem pcs_whole (A n : Nat) (d : ByteArray) (h : n * A = d.size) : cat (pcs A d n) = d := by
  apply ba_ext
  rw [pcs_cat, h, size_list, List.take_length]

/-- What Unpack answers. -/
def unp (a b : Int) (d : ByteArray) : List ByteArray × Int :=
  if vld a b = true then (if 1 ≤ d.size / a.toNat ∧ ((d.size / a.toNat : Nat) : Int) ≤ mst a b ∧ d.size % a.toNat = 0 then (pcs a.toNat d (d.size / a.toNat), 0) else ([], 11)) else ([], 1)

theorem unp_l0 (A N : Nat) (hN : N ≤ 1024) (hA1 : 1 ≤ A) (hA : A ≤ 1000) (d : ByteArray) (hd : N * A = d.size) (m : Nat) : ∀ i : Nat, N = i + m →
    Ev (fun k => fixed_Unpack.l0 k (A : Int) d (pcs A d i ++ List.replicate m ⟨#[]⟩) (N : Int) (i : Int)) (pcs A d N, 0) := by
  induction m with
  | zero =>
    intro i hi
    obtain rfl : N = i := by omega
    refine Ev.step (f := fun _ => some (pcs A d N, 0)) (fun k => ?_) (Ev.now _)
    simp only [fixed_Unpack.l0]
    rw [if_neg (by omega)]
    simp
  | succ m ih =>
    intro i hi
    have h1 : i * A ≤ d.size := by rw [← hd]; exact Nat.mul_le_mul_right _ (by omega)
    have h2 : (i + 1) * A ≤ d.size := by rw [← hd]; exact Nat.mul_le_mul_right _ (by omega)
    have h3 : d.size ≤ 1024000 := by rw [← hd]; exact Nat.le_trans (Nat.mul_le_mul hN hA) (by decide)
    have h4 : (i + 1) * A = i * A + A := Nat.succ_mul i A
    have e1 : wrap64 ((i : Int) * (A : Int)) = ((i * A : Nat) : Int) := by
      rw [← Int.natCast_mul]
      exact w64 (by omega) (by omega)
    have e2 : wrap64 ((i : Int) + 1) = ((i + 1 : Nat) : Int) := w64 (by omega) (by omega)
    have e3 : wrap64 (((i + 1 : Nat) : Int) * (A : Int)) = (((i + 1) * A : Nat) : Int) := by
      rw [← Int.natCast_mul]
      exact w64 (by omega) (by omega)
    have e4 : (pcs A d i ++ List.replicate (m + 1) (⟨#[]⟩ : ByteArray)).set i (d.extract (i * A) ((i + 1) * A)) = pcs A d (i + 1) ++ List.replicate m ⟨#[]⟩ := by
      rw [List.set_append_right _ _ (by rw [pcs_length]; exact Nat.le_refl _), pcs_length, Nat.sub_self, List.replicate_succ, List.set_cons_zero, pcs, List.append_assoc]
      rfl
    refine Ev.step (f := fun k => fixed_Unpack.l0 k (A : Int) d (pcs A d (i + 1) ++ List.replicate m ⟨#[]⟩) (N : Int) ((i + 1 : Nat) : Int)) (fun k => ?_) (ih (i + 1) (by omega))
    simp only [fixed_Unpack.l0]
    rw [if_pos (by omega), e1, e2, e3, if_pos (Int.natCast_nonneg _), if_pos (Int.ofNat_le.mpr (Nat.mul_le_mul_right A (Nat.le_succ i))), if_pos (Int.ofNat_le.mpr h2), if_pos (by omega), if_pos (by rw [List.length_append, pcs_length, List.length_replicate]; omega)]
    simp only [Int.toNat_natCast]
    rw [e4]
theorem unpack_ev (a b : Int) (d : ByteArray) (hd : d.size ≤ 140737488351232) : Ev (fun k => fixed_Unpack.f k a b d) (unp a b d) := by
  by_cases hv : vld a b = true
  · have hm := mst_pos hv
    have hb := vld_true hv
    obtain ⟨A, rfl⟩ := Int.eq_ofNat_of_zero_le (show 0 ≤ a by omega)
    obtain ⟨q, hqe⟩ : ∃ q, d.size / A = q := ⟨_, rfl⟩
    obtain ⟨m, hme⟩ : ∃ m, d.size % A = m := ⟨_, rfl⟩
    have hq : q ≤ d.size := by rw [← hqe]; exact Nat.div_le_self _ _
    have ew : wrap64 ((d.size : Int) / (A : Int)) = (q : Int) := by
      rw [← Int.natCast_ediv, hqe]
      exact w64 (by omega) (by omega)
    have em : ((d.size : Int) % (A : Int)) = (m : Int) := by rw [← Int.natCast_emod, hme]
    have hN : m = 0 → q * A = d.size := fun h => by
      rw [← hqe]
      exact Nat.div_mul_cancel (Nat.dvd_of_mod_eq_zero (by omega))
    unfold unp
    rw [if_pos hv, Int.toNat_natCast, hqe, hme]
    have start : ∀ r, Ev (fun k => if (q : Int) < 1 then fixed_Unpack.j0 k (A : Int) d (q : Int) true else if (q : Int) > mst A b then fixed_Unpack.j0 k (A : Int) d (q : Int) true else fixed_Unpack.j0 k (A : Int) d (q : Int) ((m : Int) != 0)) r → Ev (fun k => fixed_Unpack.f k A b d) r := by
      intro r h
      refine Ev.congr (fun k => ?_) h
      unfold fixed_Unpack.f
      rw [valid_f, hv]
      simp only [Option.bind_some, if_true]
      rw [if_neg (by omega), ew, em, most_f]
      rfl
    apply start
    have bad : Ev (fun k => fixed_Unpack.j0 k (A : Int) d (q : Int) true) ([], 11) := by
      refine Ev.step (f := fun _ => some ([], 11)) (fun k => ?_) (Ev.now _)
      simp only [fixed_Unpack.j0, if_true]
    by_cases c1 : 1 ≤ q
    · by_cases c2 : (q : Int) ≤ mst A b
      · by_cases c3 : m = 0
        · rw [if_pos ⟨c1, c2, c3⟩]
          have e : ((m : Int) != 0) = false := by rw [c3]; rfl
          have hl := unp_l0 A (q) (by omega) (by omega) (by omega) d (hN c3) q 0 (by omega)
          refine Ev.congr (f := fun k => fixed_Unpack.j0 k (A : Int) d (q : Int) false) (fun k => ?_) ?_
          · rw [if_neg (by omega), if_neg (by omega), e]
          · refine Ev.step (fun k => ?_) hl
            simp only [fixed_Unpack.j0, Bool.false_eq_true, if_false]
            rw [if_pos (by omega), if_pos (by omega)]
            simp [pcs]
        · rw [if_neg (fun h => c3 h.2.2)]
          have e : ((m : Int) != 0) = true := by
            rw [bne_iff_ne]
            omega
          refine Ev.congr (fun k => ?_) bad
          rw [if_neg (by omega), if_neg (by omega), e]
      · rw [if_neg (fun h => c2 h.2.1)]
        refine Ev.congr (fun k => ?_) bad
        rw [if_neg (by omega), if_pos (by omega)]
    · rw [if_neg (fun h => c1 h.1)]
      refine Ev.congr (fun k => ?_) bad
      rw [if_pos (by omega)]
  · unfold unp
    rw [if_neg hv]
    refine Ev.congr (fun k => ?_) (Ev.now _)
    unfold fixed_Unpack.f
    rw [valid_f]
    simp only [Option.bind_some]
    rw [if_neg hv]

theorem runp_l0 (A N : Nat) (hN : N ≤ 1024) (hA1 : 1 ≤ A) (hA : A ≤ 1000) (d : ByteArray) (hd : N * A = d.size) (m : Nat) : ∀ i : Nat, N = i + m →
    Ev (fun k => dasdref10_Unpack.l0 k (A : Int) d (pcs A d i) ((i * A : Nat) : Int)) (pcs A d N, 0) := by
  induction m with
  | zero =>
    intro i hi
    obtain rfl : N = i := by omega
    refine Ev.step (f := fun _ => some (pcs A d N, 0)) (fun k => ?_) (Ev.now _)
    simp only [dasdref10_Unpack.l0]
    rw [if_neg (by omega)]
  | succ m ih =>
    intro i hi
    have h1 : i * A ≤ d.size := by rw [← hd]; exact Nat.mul_le_mul_right _ (by omega)
    have h2 : (i + 1) * A ≤ d.size := by rw [← hd]; exact Nat.mul_le_mul_right _ (by omega)
    have h3 : d.size ≤ 1024000 := by rw [← hd]; exact Nat.le_trans (Nat.mul_le_mul hN hA) (by decide)
    have h4 : (i + 1) * A = i * A + A := Nat.succ_mul i A
    have e1 : wrap64 (((i * A : Nat) : Int) + (A : Int)) = (((i + 1) * A : Nat) : Int) := by
      rw [w64 (by omega) (by omega)]
      omega
    refine Ev.step (f := fun k => dasdref10_Unpack.l0 k (A : Int) d (pcs A d (i + 1)) (((i + 1) * A : Nat) : Int)) (fun k => ?_) (ih (i + 1) (by omega))
    simp only [dasdref10_Unpack.l0]
    rw [e1, if_pos (by omega), if_pos (Int.natCast_nonneg _), if_pos (Int.ofNat_le.mpr (Nat.mul_le_mul_right A (Nat.le_succ i))), if_pos (Int.ofNat_le.mpr h2), if_pos (by rw [pcs_length]; omega)]
    simp only [Int.toNat_natCast]
    rfl
theorem runpack_ev (a b : Int) (d : ByteArray) (hd : d.size ≤ 140737488351232) : Ev (fun k => dasdref10_Unpack.f k a b d) (unp a b d) := by
  by_cases hv : vld a b = true
  · have hm := mst_pos hv
    have hb := vld_true hv
    obtain ⟨A, rfl⟩ := Int.eq_ofNat_of_zero_le (show 0 ≤ a by omega)
    obtain ⟨q, hqe⟩ : ∃ q, d.size / A = q := ⟨_, rfl⟩
    obtain ⟨m, hme⟩ : ∃ m, d.size % A = m := ⟨_, rfl⟩
    have hq : q ≤ d.size := by rw [← hqe]; exact Nat.div_le_self _ _
    have ew : wrap64 ((d.size : Int) / (A : Int)) = (q : Int) := by
      rw [← Int.natCast_ediv, hqe]
      exact w64 (by omega) (by omega)
    have em : ((d.size : Int) % (A : Int)) = (m : Int) := by rw [← Int.natCast_emod, hme]
    have hN : m = 0 → q * A = d.size := fun h => by
      rw [← hqe]
      exact Nat.div_mul_cancel (Nat.dvd_of_mod_eq_zero (by omega))
    unfold unp
    rw [if_pos hv, Int.toNat_natCast, hqe, hme]
    have start : ∀ r, Ev (fun k => if (d.size : Int) = 0 then dasdref10_Unpack.j0 k (A : Int) d true else if (m : Int) = 0 then dasdref10_Unpack.j0 k (A : Int) d (decide ((q : Int) > mst A b)) else dasdref10_Unpack.j0 k (A : Int) d true) r → Ev (fun k => dasdref10_Unpack.f k A b d) r := by
      intro r h
      refine Ev.congr (fun k => ?_) h
      unfold dasdref10_Unpack.f
      rw [rvalid_f, hv]
      simp only [Option.bind_some, if_true]
      rw [if_neg (show ¬ (A : Int) = 0 by omega), ew, em, rmost_f]
      rfl
    apply start
    have bad : Ev (fun k => dasdref10_Unpack.j0 k (A : Int) d true) ([], 11) := by
      refine Ev.step (f := fun _ => some ([], 11)) (fun k => ?_) (Ev.now _)
      simp only [dasdref10_Unpack.j0, if_true]
    by_cases c0 : d.size = 0
    · rw [if_neg (fun h => by have := h.1; omega)]
      refine Ev.congr (fun k => ?_) bad
      rw [if_pos (by omega)]
    by_cases c3 : m = 0
    · have c1 : 1 ≤ q := by
        rcases Nat.eq_zero_or_pos q with h | h
        · have := hN c3
          rw [h] at this
          omega
        · exact h
      by_cases c2 : (q : Int) ≤ mst A b
      · rw [if_pos ⟨c1, c2, c3⟩]
        have hl := runp_l0 A (q) (by omega) (by omega) (by omega) d (hN c3) q 0 (by omega)
        refine Ev.congr (f := fun k => dasdref10_Unpack.j0 k (A : Int) d false) (fun k => ?_) ?_
        · rw [if_neg (by omega), if_pos (by omega), decide_eq_false (by omega)]
        · refine Ev.step (fun k => ?_) hl
          simp only [dasdref10_Unpack.j0, Bool.false_eq_true, if_false]
          simp [pcs]
      · rw [if_neg (fun h => c2 h.2.1)]
        refine Ev.congr (fun k => ?_) bad
        rw [if_neg (by omega), if_pos (by omega), decide_eq_true (by omega)]
    · rw [if_neg (fun h => c3 h.2.2)]
      refine Ev.congr (fun k => ?_) bad
      rw [if_neg (by omega), if_neg (by omega)]
  · unfold unp
    rw [if_neg hv]
    refine Ev.congr (fun k => ?_) (Ev.now _)
    unfold dasdref10_Unpack.f
    rw [rvalid_f]
    simp only [Option.bind_some]
    rw [if_neg hv]
end Go.Proofs.Ytginemabhdjmfaa.Base
