/-
Plain laws: padded records; unpacking the block of records gives the records.
-/
import Derived.Test.YtginemabhdjmfaaPad
import Derived.Test.YtginemabhdjmfaaFew
import Derived.Test.YtginemabhdjmfaaXFx16
set_option linter.unusedVariables false
namespace Go.Proofs.Ytginemabhdjmfaa.Base
open Go.RowKit Go.Proofs.Ytginemabhdjmfaa.XFx Go.Proofs.YtginemabhdjmfaaW.PrintWords Go.Proofs.YtginemabhdjmfaaW.PrintLast Go.Proofs.YtginemabhdjmfaaW.PrintMore

/-! ### records -/
theorem recs_l0 (a : Int) (l : List ByteArray) (hl : l.length ≤ 10000) (hs : ∀ x ∈ l, x.size ≤ 140737488351232) (d : Nat) : ∀ i : Nat, l.length = i + d →
    Ev (fun k => dasdlaw10_records.l0 k a ((l.take i).map (pad (padn a))) l (l.length : Int) (i : Int)) (l.map (pad (padn a))) := by
  induction d with
  | zero =>
    intro i hi
    refine Ev.step (f := fun _ => some (l.map (pad (padn a)))) (fun k => ?_) (Ev.now _)
    rw [List.take_of_length_le (by omega)]
    simp only [dasdlaw10_records.l0]
    rw [if_neg (by omega)]
  | succ d ih =>
    intro i hi
    refine Ev.step (f := fun k => dasdlaw10_records.l0 k a ((l.take (i + 1)).map (pad (padn a))) l (l.length : Int) ((i + 1 : Nat) : Int)) (fun k => ?_) (ih (i + 1) (by omega))
    simp only [dasdlaw10_records.l0]
    rw [if_pos (by omega), if_pos (by omega), if_pos (by omega), rd_at l i (by omega), pad_f a _ (hs _ (List.getElem_mem _))]
    simp only [Option.bind_some]
    rw [if_pos (by rw [List.length_map, List.length_take]; omega), w64 (by omega) (by omega), List.take_succ_eq_append_getElem (by omega), List.map_append]
    rfl
theorem records_ev (a : Int) (l : List ByteArray) (hl : l.length ≤ 10000) (hs : ∀ x ∈ l, x.size ≤ 140737488351232) : Ev (fun k => dasdlaw10_records.f k a l) (l.map (pad (padn a))) :=
  recs_l0 a l hl hs l.length 0 (by omega)
theorem padn_vld {a b : Int} (h : vld a b = true) : (padn a : Int) = a := by
  obtain ⟨h1, h2, _⟩ := vld_true h
  rw [← (padn_eq a).1]
  unfold mn mx
  (repeat' split) <;> omega
theorem recs_size (a b : Int) (h : vld a b = true) (l : List ByteArray) : ∀ x ∈ l.map (pad (padn a)), (x.size : Int) = a := by
  intro x hx
  obtain ⟨y, _, rfl⟩ := List.mem_map.mp hx
  rw [pad_size, padn_vld h]

/-! ### unpacking what was packed -/
theorem pcs_get (A : Nat) (d : ByteArray) : ∀ (n i : Nat) (h : i < n), (pcs A d n)[i]'(by rw [pcs_length]; exact h) = d.extract (i * A) ((i + 1) * A)
  | 0, i, h => absurd h (by omega)
  | n + 1, i, h => by
    simp only [pcs]
    by_cases e : i < n
    · rw [List.getElem_append_left (by rw [pcs_length]; exact e), pcs_get A d n i e]
    · obtain rfl : i = n := by omega
      rw [List.getElem_append_right (by rw [pcs_length]; exact Nat.le_refl _)]
      simp
theorem cat_app (l r : List ByteArray) : (cat (l ++ r)).data.toList = (cat l).data.toList ++ (cat r).data.toList := by
  rw [cat_data, cat_data, cat_data, List.map_append, List.flatten_append]
theorem cat_cons (x : ByteArray) (l : List ByteArray) : (cat (x :: l)).data.toList = x.data.toList ++ (cat l).data.toList := by
  rw [cat_data, cat_data]
  simp
theorem pcs_recs (A : Nat) (l : List ByteArray) (hs : ∀ x ∈ l, x.size = A) : pcs A (cat l) l.length = l := by
  apply List.ext_getElem (pcs_length _ _ _)
  intro i h1 h2
  rw [pcs_get A (cat l) l.length i h2]
  apply ba_ext
  have hx : l[i].size = A := hs _ (List.getElem_mem _)
  have hl : (cat (l.take i)).data.toList.length = i * A := by
    rw [← size_list, cat_size _ A (fun x hx => hs x (List.mem_of_mem_take hx)), List.length_take, Nat.min_eq_left (by omega)]
  have hc : (cat l).data.toList = (cat (l.take i)).data.toList ++ (l[i].data.toList ++ (cat (l.drop (i + 1))).data.toList) := by
    rw [← cat_cons, ← List.drop_eq_getElem_cons h2, ← cat_app, List.take_append_drop]
  rw [ext_data, hc, ← hl, List.drop_left, hl, show (i + 1) * A - i * A = A by rw [Nat.succ_mul]; omega, ← hx, size_list, List.take_left]
theorem unp_cat (a b : Int) (hv : vld a b = true) (l : List ByteArray) (hs : ∀ x ∈ l, (x.size : Int) = a) (h1 : 1 ≤ l.length) (h2 : (l.length : Int) ≤ mst a b) : unp a b (cat l) = (l, 0) ∧ (cat l).size = l.length * a.toNat := by
  have hb := vld_true hv
  obtain ⟨A, rfl⟩ := Int.eq_ofNat_of_zero_le (show 0 ≤ a by omega)
  have hs2 : ∀ x ∈ l, x.size = A := fun x hx => by have := hs x hx; omega
  have hsz := cat_size l A hs2
  have hq : (cat l).size / A = l.length := by rw [hsz, Nat.mul_div_cancel _ (by omega)]
  unfold unp
  rw [if_pos hv, Int.toNat_natCast, hq, if_pos ⟨h1, h2, by rw [hsz, Nat.mul_mod_left]⟩, pcs_recs A l hs2]
  exact ⟨rfl, hsz⟩
theorem mst_mul {a b : Int} (h : vld a b = true) : (mst a b).toNat * a.toNat ≤ b.toNat := by
  have hb := vld_true h
  unfold mst
  rw [if_pos h]
  have h1 : b / a * a ≤ b := Int.ediv_mul_le b (by omega)
  have h2 : 0 ≤ b / a := Int.ediv_nonneg (by omega) (by omega)
  have h3 : ((b / a).toNat * a.toNat : Nat) = b / a * a := by
    rw [Int.natCast_mul, Int.toNat_of_nonneg h2, Int.toNat_of_nonneg (by omega)]
  omega
end Go.Proofs.Ytginemabhdjmfaa.Base
