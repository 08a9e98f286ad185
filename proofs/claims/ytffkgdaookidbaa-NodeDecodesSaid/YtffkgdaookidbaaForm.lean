/-
Plain laws on a node's form: what Front, fronts, Size, form and the two Encodes answer.
-/
import Derived.Test.YtffkgdaookidbaaXNx29
import Derived.Test.YtffkgdaookidbaaXNx9
import Derived.Test.YtffkgdaookidbaaXNx24
import Derived.Test.YtffkgdaookidbaaBase
set_option linter.unusedVariables false
namespace Go.Proofs.Ytffkgdaookidbaa.Form
open Go.RowKit Go.Proofs.Ytffkgdaookidbaa.XNx Go.Proofs.Ytffkgdaookidbaa.Base Go.Proofs.YtffkgdaookidbaaW.PrintWords Go.Proofs.YtffkgdaookidbaaW.PrintLast Go.Proofs.YtffkgdaookidbaaW.PrintMore

/-! ### bytes as lists -/
abbrev L (b : ByteArray) : List UInt8 := b.data.toList
def mk (l : List UInt8) : ByteArray := ⟨l.toArray⟩
theorem L_mk (l : List UInt8) : L (mk l) = l := by simp [L, mk]
theorem mk_L (b : ByteArray) : mk (L b) = b := ba_ext (L_mk _)
theorem L_len (b : ByteArray) : (L b).length = b.size := (size_list b).symm
theorem mk_size (l : List UInt8) : (mk l).size = l.length := by rw [← L_len, L_mk]
theorem L_app (a b : ByteArray) : L (a ++ b) = L a ++ L b := by simp [L, ByteArray.data_append]
theorem L_empty : L ⟨#[]⟩ = [] := rfl
theorem L_extract (s : ByteArray) (i j : Nat) : L (s.extract i j) = ((L s).take j).drop i := by
  show (s.extract i j).data.toList = _
  rw [ByteArray.data_extract, Array.toList_extract, List.extract_eq_take_drop, List.drop_take]
theorem L_to (s : ByteArray) (j : Nat) : L (s.extract 0 j) = (L s).take j := by rw [L_extract, List.drop_zero]
theorem L_from (s : ByteArray) (i : Nat) : L (s.extract i s.size) = (L s).drop i := by
  rw [L_extract, List.take_of_length_le (by rw [L_len]; exact Nat.le_refl _)]
def u (n : Int) : UInt8 := UInt8.ofNat n.toNat
theorem L_nums (xs : List Int) : L (strOfNums xs) = xs.map u := by
  show (strOfNums xs).data.toList = _
  unfold strOfNums
  simp [u]
  try rfl
theorem nums_bytes (s : ByteArray) : (bytesOf s).map u = L s := by
  unfold bytesOf u L
  rw [List.map_map]
  conv => rhs; rw [← List.map_id s.data.toList]
  apply List.map_congr_left
  intro b _
  simp
theorem bt_list (s : ByteArray) (i : Nat) : bt s (i : Int) = (((L s)[i]?.getD 0).toNat : Int) := by
  unfold bt
  rw [Int.toNat_natCast]
  by_cases h : i < s.size
  · rw [dif_pos h, List.getElem?_eq_getElem (by rw [L_len]; exact h)]
    rfl
  · rw [dif_neg h, List.getElem?_eq_none (by rw [L_len]; omega)]
    rfl

/-! ### the form -/
def cf : List UInt8 → List UInt8 → Nat
  | a :: x, b :: y => if a = b then cf x y + 1 else 0
  | _, _ => 0
theorem cf_nil (b : List UInt8) : cf [] b = 0 := by cases b <;> rfl
theorem cf_le : ∀ a b : List UInt8, cf a b ≤ a.length ∧ cf a b ≤ b.length
  | [], b => by rw [cf_nil]; simp
  | a :: x, [] => by simp [cf]
  | a :: x, b :: y => by
    have := cf_le x y
    simp only [cf, List.length_cons]
    split <;> omega
theorem cf_take : ∀ a b : List UInt8, a.take (cf a b) = b.take (cf a b)
  | [], b => by rw [cf_nil]; simp
  | a :: x, [] => by simp [cf]
  | a :: x, b :: y => by
    simp only [cf]
    split
    · rename_i h
      rw [h, List.take_succ_cons, List.take_succ_cons, cf_take x y]
    · rfl
def four (x : Int) : List UInt8 := [u (x % 256), u (x / 256 % 256), u (x / 65536 % 256), u (x / 16777216 % 256)]
def enc1 (p : ByteArray) (x : S32) : List UInt8 := [u (cf (L p) (L x.f0) : Nat), u ((x.f0.size : Int) - (cf (L p) (L x.f0) : Nat))] ++ (L x.f0).drop (cf (L p) (L x.f0)) ++ four x.f1
def encA (p : ByteArray) : List S32 → List UInt8
  | [] => []
  | x :: l => enc1 p x ++ encA x.f0 l
def frm (a b : Int) (l : List S32) : List UInt8 := [u (a % 256)] ++ four b ++ [u ((l.length : Int) % 256)] ++ encA ⟨#[]⟩ l
theorem enc1_len (p : ByteArray) (x : S32) : ((enc1 p x).length : Int) = 6 + x.f0.size - cf (L p) (L x.f0) := by
  have := (cf_le (L p) (L x.f0)).2
  rw [L_len] at this
  unfold enc1 four
  simp only [List.length_append, List.length_cons, List.length_nil, List.length_drop, L_len]
  omega
theorem frm_len (a b : Int) (l : List S32) : (frm a b l).length = 6 + (encA ⟨#[]⟩ l).length := by
  unfold frm four
  simp only [List.length_append, List.length_cons, List.length_nil]
theorem encA_len (l : List S32) (h : ∀ x ∈ l, x.f0.size ≤ 32) : ∀ p, (encA p l).length ≤ 38 * l.length := by
  induction l with
  | nil => intro p; simp [encA]
  | cons x l ih =>
    intro p
    have h1 := enc1_len p x
    have h2 := h x (by simp)
    have h3 := ih (fun y hy => h y (by simp [hy])) x.f0
    simp only [encA, List.length_append, List.length_cons]
    omega

/-! ### Front -/
theorem drop_at {α : Type} (l : List α) (i : Nat) (h : i < l.length) : l.drop i = l[i] :: l.drop (i + 1) := List.drop_eq_getElem_cons h
theorem front_l0 (a b : ByteArray) (ha : a.size ≤ 1000000) (hb : b.size ≤ 1000000) (d : Nat) : ∀ i : Nat, a.size = i + d → i ≤ b.size →
    Ev (fun k => key_Front.l0 k a b (i : Int)) ((i + cf ((L a).drop i) ((L b).drop i) : Nat) : Int) := by
  induction d with
  | zero =>
    intro i h1 h2
    refine Ev.step (f := fun _ => some _) (fun k => ?_) (Ev.now _)
    rw [key_Front.l0, if_neg (by omega), List.drop_of_length_le (by rw [L_len]; omega), cf_nil]
    rfl
  | succ d ih =>
    intro i h1 h2
    by_cases hi : i < b.size
    · have ea := drop_at (L a) i (by rw [L_len]; omega)
      have eb := drop_at (L b) i (by rw [L_len]; omega)
      have xa : bt a (i : Int) = ((L a)[i]'(by rw [L_len]; omega)).toNat := by rw [bt_list, List.getElem?_eq_getElem (by rw [L_len]; omega)]; rfl
      have xb : bt b (i : Int) = ((L b)[i]'(by rw [L_len]; omega)).toNat := by rw [bt_list, List.getElem?_eq_getElem (by rw [L_len]; omega)]; rfl
      by_cases he : (L a)[i]'(by rw [L_len]; omega) = (L b)[i]'(by rw [L_len]; omega)
      · have := ih (i + 1) (by omega) (by omega)
        refine Ev.step (f := fun k => key_Front.l0 k a b ((i + 1 : Nat) : Int)) (fun k => ?_) ?_
        · rw [key_Front.l0, if_pos (by omega), if_pos (by omega), if_pos (by omega), if_pos (by rw [xa, xb, he]), w64 (by omega) (by omega)]
          rfl
        · rw [ea, eb, cf, if_pos he, show i + (cf ((L a).drop (i + 1)) ((L b).drop (i + 1)) + 1) = i + 1 + cf ((L a).drop (i + 1)) ((L b).drop (i + 1)) by omega]
          exact this
      · refine Ev.step (f := fun _ => some _) (fun k => ?_) (Ev.now _)
        rw [key_Front.l0, if_pos (by omega), if_pos (by omega), if_pos (by omega), if_neg (by rw [xa, xb]; intro h; exact he (UInt8.toNat_inj.mp (by omega))), ea, eb, cf, if_neg he]
        rfl
    · refine Ev.step (f := fun _ => some _) (fun k => ?_) (Ev.now _)
      rw [key_Front.l0, if_pos (by omega), if_neg (by omega), List.drop_of_length_le (l := L b) (by rw [L_len]; omega), drop_at (L a) i (by rw [L_len]; omega)]
      rfl
theorem front_ev (a b : ByteArray) (ha : a.size ≤ 1000000) (hb : b.size ≤ 1000000) : Ev (fun k => key_Front.f k a b) ((cf (L a) (L b) : Nat) : Int) := by
  have := front_l0 a b ha hb a.size 0 (by omega) (by omega)
  rw [Nat.zero_add] at this
  exact this
theorem rfront_eq (a b : ByteArray) : ∀ (k : Nat) (i : Int), dasdref16_Front.l0 k a b i = key_Front.l0 k a b i
  | 0, i => rfl
  | k + 1, i => by rw [dasdref16_Front.l0, key_Front.l0, rfront_eq a b k]
theorem rfront_ev (a b : ByteArray) (ha : a.size ≤ 1000000) (hb : b.size ≤ 1000000) : Ev (fun k => dasdref16_Front.f k a b) ((cf (L a) (L b) : Nat) : Int) :=
  Ev.congr (fun k => rfront_eq a b k 0) (front_ev a b ha hb)

/-! ### fronts -/
def prev (l : List S32) (i : Nat) : ByteArray := if i = 0 then ⟨#[]⟩ else (en l (i - 1)).f0
def F (l : List S32) (i : Nat) : Nat := cf (L (prev l i)) (L (en l i).f0)
def small (l : List S32) : Prop := l.length ≤ 1000 ∧ ∀ i, i < l.length → (en l i).f0.size ≤ 1000
theorem prev_small {l : List S32} (h : small l) (i : Nat) (hi : i ≤ l.length) : (prev l i).size ≤ 1000 := by
  unfold prev
  split
  · exact Nat.zero_le _
  · exact h.2 _ (by omega)
theorem prev_succ (l : List S32) (i : Nat) : prev l (i + 1) = (en l i).f0 := by
  unfold prev
  rw [if_neg (by omega)]
  rfl
theorem drop_en (l : List S32) (i : Nat) (h : i < l.length) : l.drop i = en l i :: l.drop (i + 1) := by rw [en_get l i h]; exact drop_at l i h
theorem fronts_l0 (l : List S32) (hl : small l) (d : Nat) : ∀ (i : Nat) (t : List Int), l.length = i + d → t.length = l.length → (∀ j, j < i → rd t (j : Int) = F l j) → (∀ j, i ≤ j → rd t (j : Int) = 0) →
    ∃ t', Ev (fun k => node_fronts.l0 k l t (l.length : Int) (i : Int)) t' ∧ t'.length = l.length ∧ ∀ j, j < l.length → rd t' (j : Int) = F l j := by
  have hll := hl.1
  induction d with
  | zero =>
    intro i t h1 h2 h3 h4
    refine ⟨t, Ev.step (f := fun _ => some _) (fun k => ?_) (Ev.now _), h2, fun j hj => h3 j (by omega)⟩
    rw [node_fronts.l0, if_neg (by omega)]
  | succ d ih =>
    intro i t h1 h2 h3 h4
    by_cases h0 : i = 0
    · have hA : ∀ j, j < i + 1 → rd t (j : Int) = F l j := by
        intro j hj
        rw [h4 j (by omega)]
        unfold F prev
        rw [if_pos (by omega), L_empty, cf_nil]
        rfl
      obtain ⟨t', e, p, q⟩ := ih (i + 1) t (by omega) h2 hA (fun j hj => h4 j (by omega))
      refine ⟨t', Ev.step (fun k => ?_) e, p, q⟩
      show node_fronts.l0 (k + 1) l t (l.length : Int) (i : Int) = node_fronts.l0 k l t (l.length : Int) ((i + 1 : Nat) : Int)
      rw [node_fronts.l0, if_pos (by omega), if_neg (by omega), w64 (by omega) (by omega)]
      rfl
    · have hF : F l i = cf (L (en l (i - 1)).f0) (L (en l i).f0) := by unfold F prev; rw [if_neg h0]
      have hA : ∀ j, j < i + 1 → rd (t.set i (F l i : Int)) (j : Int) = F l j := by
        intro j hj
        unfold rd
        rw [Int.toNat_natCast, List.getD_eq_getElem?_getD, List.getElem?_set]
        by_cases hij : i = j
        · rw [if_pos hij, if_pos (by omega), ← hij]
          rfl
        · rw [if_neg hij]
          have := h3 j (by omega)
          unfold rd at this
          rw [Int.toNat_natCast, List.getD_eq_getElem?_getD] at this
          exact this
      have hB : ∀ j, i + 1 ≤ j → rd (t.set i (F l i : Int)) (j : Int) = 0 := by
        intro j hj
        unfold rd
        rw [Int.toNat_natCast, List.getD_eq_getElem?_getD, List.getElem?_set, if_neg (by omega)]
        have := h4 j (by omega)
        unfold rd at this
        rw [Int.toNat_natCast, List.getD_eq_getElem?_getD] at this
        exact this
      obtain ⟨t', e, p, q⟩ := ih (i + 1) (t.set i (F l i : Int)) (by omega) (by rw [List.length_set]; exact h2) hA hB
      refine ⟨t', ?_, p, q⟩
      refine Ev.step (f := fun k => (key_Front.f k (en l (i - 1)).f0 (en l i).f0).bind fun t114 => (if (i : Int) < (t.length : Int) then (node_fronts.l0 k l (t.set (i : Int).toNat t114) (l.length : Int) (wrap64 ((i : Int) + 1))) else (none))) (fun k => ?_) ?_
      · rw [node_fronts.l0, if_pos (by omega), if_pos (by omega), w64 (by omega) (by omega), if_pos (by omega), if_pos (by omega), if_pos (by omega), if_pos (by omega), show (i : Int) - 1 = ((i - 1 : Nat) : Int) by omega]
        rfl
      · refine Ev.bind (front_ev _ _ (Nat.le_trans (hl.2 _ (by omega)) (by decide)) (Nat.le_trans (hl.2 _ (by omega)) (by decide))) ?_
        refine Ev.congr (fun k => if_pos (by omega)) ?_
        rw [w64 (by omega) (by omega), ← hF]
        exact e
theorem fronts_ev (l : List S32) (hl : small l) : ∃ t, Ev (fun k => node_fronts.f k l) t ∧ t.length = l.length ∧ ∀ j, j < l.length → rd t (j : Int) = F l j := by
  have hll := hl.1
  obtain ⟨t, e, p, q⟩ := fronts_l0 l hl l.length 0 (List.replicate l.length 0) (by omega) (by simp) (fun j hj => by omega) (fun j hj => by
    unfold rd
    rw [Int.toNat_natCast, List.getD_eq_getElem?_getD, List.getElem?_replicate]
    split <;> rfl)
  refine ⟨t, Ev.congr (fun k => ?_) e, p, q⟩
  unfold node_fronts.f
  rw [if_pos (by omega), if_pos (by omega)]
  rfl
end Go.Proofs.Ytffkgdaookidbaa.Form
