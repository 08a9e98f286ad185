/-
Plain laws on blocks of records: what the printed functions Valid, Most, Same, Pack of chapter 10 answer, without Go and memory.
-/
import Derived.Test.YtginemabhdjmfaaXFx1
import Derived.Test.YtginemabhdjmfaaXFx2
import Derived.Test.YtginemabhdjmfaaXFx3
import Derived.Test.YtginemabhdjmfaaXFx4
namespace Go.Proofs.Ytginemabhdjmfaa.Base
open Go.RowKit Go.Proofs.Ytginemabhdjmfaa.XFx Go.Proofs.YtginemabhdjmfaaW.PrintWords Go.Proofs.YtginemabhdjmfaaW.PrintLast Go.Proofs.YtginemabhdjmfaaW.PrintMore

theorem w64 {x : Int} (h0 : -9223372036854775808 ≤ x) (h1 : x ≤ 9223372036854775807) : wrap64 x = x := by
  unfold wrap64
  omega

/-! ### valid and most -/
def vld (a b : Int) : Bool := decide (1 ≤ a ∧ a ≤ 1000 ∧ a ≤ b ∧ b ≤ 1024)
theorem vld_true {a b : Int} (h : vld a b = true) : 1 ≤ a ∧ a ≤ 1000 ∧ a ≤ b ∧ b ≤ 1024 := of_decide_eq_true h
theorem valid_f (a b : Int) : fixed_Valid.f a b = some (vld a b) := by
  unfold fixed_Valid.f vld
  (repeat' split) <;> (congr 1; rw [Bool.eq_iff_iff]; simp; omega)
theorem rvalid_f (a b : Int) : dasdref10_Valid.f a b = some (vld a b) := valid_f a b
def mst (a b : Int) : Int := if vld a b = true then b / a else 0
theorem mst_pos {a b : Int} (h : vld a b = true) : 1 ≤ mst a b ∧ mst a b ≤ 1024 := by
  obtain ⟨h1, h2, h3, h4⟩ := vld_true h
  unfold mst
  rw [if_pos h]
  constructor
  · exact Int.le_ediv_of_mul_le (by omega) (by omega)
  · exact Int.le_trans (Int.ediv_le_self a (by omega)) h4
theorem most_f (a b : Int) : fixed_Most.f a b = some (mst a b) := by
  unfold fixed_Most.f
  rw [valid_f]
  simp only [Option.bind_some]
  by_cases h : vld a b = true
  · obtain ⟨h1, h2, h3, h4⟩ := vld_true h
    have hm := mst_pos h
    rw [if_pos h, if_neg (by omega), Int.tdiv_eq_ediv_of_nonneg (by omega)]
    unfold mst at hm ⊢
    rw [if_pos h] at hm ⊢
    rw [w64 (by omega) (by omega)]
  · rw [if_neg h]
    unfold mst
    rw [if_neg h]
theorem rmost_f (a b : Int) : dasdref10_Most.f a b = some (mst a b) := most_f a b

/-! ### lists and their elements -/
theorem rd_at (xs : List ByteArray) (i : Nat) (h : i < xs.length) : rdOf ByteArray.empty xs (i : Int) = xs[i] := by
  unfold rdOf
  rw [Int.toNat_natCast, List.getD_eq_getElem?_getD, List.getElem?_eq_getElem h]
  rfl
theorem rd_set (xs : List ByteArray) (i : Nat) (x : ByteArray) : xs.set ((i : Int)).toNat x = xs.set i x := by
  rw [Int.toNat_natCast]

/-! ### Same -/
theorem same_l0 (l : List ByteArray) (hl : l.length ≤ 140737488355328) (d : Nat) : ∀ (k i : Nat), l.length = i + d → d < k → dasdref10_Same.l0 k l l (i : Int) = some true := by
  induction d with
  | zero =>
    intro k i hd hk
    obtain ⟨k, rfl⟩ : ∃ m, k = m + 1 := ⟨k - 1, by omega⟩
    simp only [dasdref10_Same.l0]
    rw [if_neg (by omega)]
  | succ d ih =>
    intro k i hd hk
    obtain ⟨k, rfl⟩ : ∃ m, k = m + 1 := ⟨k - 1, by omega⟩
    simp only [dasdref10_Same.l0]
    rw [if_pos (by omega), if_pos (by omega), if_pos (by omega), w64 (by omega) (by omega)]
    simp only [if_true]
    exact ih k (i + 1) (by omega) (by omega)
theorem same_ev (l : List ByteArray) (hl : l.length ≤ 140737488355328) : Ev (fun k => dasdref10_Same.f k l l) true := by
  refine Ev.of (dasdref10_Same.mono l l) (k := l.length + 1) ?_
  unfold dasdref10_Same.f
  rw [if_pos rfl]
  exact same_l0 l hl l.length _ 0 (by omega) (by omega)

/-! ### bytes behind each other -/
def cat (l : List ByteArray) : ByteArray := ⟨((l.map (·.data.toList)).flatten).toArray⟩
theorem ba_ext {a b : ByteArray} (h : a.data.toList = b.data.toList) : a = b := by
  cases a; cases b
  congr
  exact Array.toList_inj.mp h
theorem cat_data (l : List ByteArray) : (cat l).data.toList = (l.map (·.data.toList)).flatten := by simp [cat]
theorem app_data (a b : ByteArray) : (a ++ b).data.toList = a.data.toList ++ b.data.toList := by simp [ByteArray.data_append]
theorem size_list (a : ByteArray) : a.size = a.data.toList.length := by rw [Array.length_toList]; rfl
theorem app_size (a b : ByteArray) : (a ++ b).size = a.size + b.size := by rw [size_list, app_data, List.length_append, ← size_list, ← size_list]
theorem cat_nil : cat [] = ⟨#[]⟩ := rfl
theorem cat_one (x : ByteArray) : cat [x] = x := ba_ext (by rw [cat_data]; simp)
theorem cat_snoc (l : List ByteArray) (x : ByteArray) : cat (l ++ [x]) = cat l ++ x := ba_ext (by rw [cat_data, app_data, cat_data]; simp)
theorem cat_size (l : List ByteArray) (a : Nat) (h : ∀ x ∈ l, x.size = a) : (cat l).size = l.length * a := by
  induction l with
  | nil => simp [cat_nil]; rfl
  | cons x l ih =>
    have h1 : (cat (x :: l)).size = x.size + (cat l).size := by
      rw [size_list, size_list, size_list, cat_data, cat_data]
      simp
    rw [h1, ih (fun y hy => h y (List.mem_cons_of_mem _ hy)), h x List.mem_cons_self, List.length_cons, Nat.succ_mul]
    omega
theorem joinL_cat (l : List ByteArray) : (⟨(joinL l ⟨#[]⟩).toArray⟩ : ByteArray) = cat l := by
  apply ba_ext
  rw [cat_data]
  unfold joinL
  cases l with
  | nil => rfl
  | cons x l => simp [Lib.join_cons, Lib.joinTail, Function.comp_def]
theorem join_f (l : List ByteArray) (h : (cat l).size ≤ 140737488355328) (hn : l.length ≤ 140737488355328) : strings_Join.f l ⟨#[]⟩ = some (cat l) := by
  unfold strings_Join.f
  have e := joinL_cat l
  have hs : (joinL l ⟨#[]⟩).length ≤ 140737488355328 := by
    have : (cat l).size = (joinL l ⟨#[]⟩).length := by rw [← e, size_list]
    omega
  rw [if_pos ⟨hs, hn⟩, e]

/-! ### the blocks of records -/
/-- The blocks of records, m to a block (f: as many as the records at least). -/
def blkf (m : Nat) : Nat → List ByteArray → List ByteArray
  | 0, _ => []
  | f + 1, l => if l = [] then [] else cat (l.take m) :: blkf m f (l.drop m)
theorem blkf_more (m : Nat) (hm : 1 ≤ m) : ∀ (f g : Nat) (l : List ByteArray), l.length ≤ f → l.length ≤ g → blkf m f l = blkf m g l
  | 0, 0, _, _, _ => rfl
  | 0, g + 1, l, h, _ => by
    have : l = [] := List.eq_nil_of_length_eq_zero (by omega)
    simp [blkf, this]
  | f + 1, 0, l, _, h => by
    have : l = [] := List.eq_nil_of_length_eq_zero (by omega)
    simp [blkf, this]
  | f + 1, g + 1, l, h, h' => by
    simp only [blkf]
    by_cases e : l = []
    · simp [e]
    · have : 0 < l.length := List.length_pos_iff.mpr e
      rw [if_neg e, if_neg e, blkf_more m hm f g (l.drop m) (by rw [List.length_drop]; omega) (by rw [List.length_drop]; omega)]
def blk (m : Nat) (l : List ByteArray) : List ByteArray := blkf m l.length l
theorem blk_nil (m : Nat) : blk m [] = [] := rfl
theorem blk_cut (m : Nat) (hm : 1 ≤ m) (l : List ByteArray) (h : l ≠ []) : blk m l = cat (l.take m) :: blk m (l.drop m) := by
  have : 0 < l.length := List.length_pos_iff.mpr h
  obtain ⟨n, hn⟩ : ∃ n, l.length = n + 1 := ⟨l.length - 1, by omega⟩
  unfold blk
  rw [hn]
  simp only [blkf]
  rw [if_neg h, blkf_more m hm n (l.drop m).length (l.drop m) (by rw [List.length_drop]; omega) (Nat.le_refl _)]
theorem blk_small (m : Nat) (hm : 1 ≤ m) (l : List ByteArray) (h : l ≠ []) (hl : l.length ≤ m) : blk m l = [cat l] := by
  rw [blk_cut m hm l h, List.take_of_length_le hl, List.drop_of_length_le hl, blk_nil]
theorem blk_len (m : Nat) (hm : 1 ≤ m) : ∀ (n : Nat) (l : List ByteArray), l.length ≤ n → (blk m l).length ≤ l.length ∧ l.length ≤ (blk m l).length * m ∧ (l ≠ [] → 1 ≤ (blk m l).length ∧ ((blk m l).length - 1) * m < l.length)
  | 0, l, h => by
    have : l = [] := List.eq_nil_of_length_eq_zero (by omega)
    subst this
    simp [blk_nil]
  | n + 1, l, h => by
    by_cases e : l = []
    · subst e
      simp [blk_nil]
    · have h0 : 0 < l.length := List.length_pos_iff.mpr e
      obtain ⟨h1, h2, h3⟩ := blk_len m hm n (l.drop m) (by rw [List.length_drop]; omega)
      rw [blk_cut m hm l e, List.length_cons]
      rw [List.length_drop] at h1 h2 h3
      refine ⟨by omega, by rw [Nat.succ_mul]; omega, fun _ => ⟨by omega, ?_⟩⟩
      rw [Nat.add_sub_cancel]
      by_cases e2 : l.drop m = []
      · rw [e2, blk_nil]
        simpa using h0
      · obtain ⟨h4, h5⟩ := h3 e2
        obtain ⟨q, hq⟩ : ∃ q, (blk m (l.drop m)).length = q + 1 := ⟨(blk m (l.drop m)).length - 1, by omega⟩
        rw [hq] at h5 ⊢
        rw [Nat.add_sub_cancel] at h5
        rw [Nat.succ_mul]
        omega
/-- One record more. -/
theorem blk_snoc (m : Nat) (hm : 1 ≤ m) (x : ByteArray) : ∀ (n : Nat) (l : List ByteArray), l.length ≤ n →
    (l.length % m = 0 → blk m (l ++ [x]) = blk m l ++ [x]) ∧ (l.length % m ≠ 0 → ∃ a b, blk m l = a ++ [b] ∧ blk m (l ++ [x]) = a ++ [b ++ x])
  | n, l, h => by
    by_cases hlt : l.length < m
    · by_cases e : l = []
      · subst e
        refine ⟨fun _ => ?_, fun h => absurd (Nat.zero_mod m) h⟩
        rw [List.nil_append, blk_small m hm [x] (by simp) (by simpa using hm), blk_nil, cat_one]
        rfl
      · have h0 : 0 < l.length := List.length_pos_iff.mpr e
        refine ⟨fun h => by rw [Nat.mod_eq_of_lt hlt] at h; omega, fun _ => ⟨[], cat l, ?_, ?_⟩⟩
        · rw [blk_small m hm l e (by omega)]
          rfl
        · rw [blk_small m hm (l ++ [x]) (by simp) (by rw [List.length_append, List.length_singleton]; omega), cat_snoc]
          rfl
    · match n with
      | 0 => exact absurd h (by omega)
      | n + 1 =>
        have e : l ≠ [] := by
          rintro rfl
          simp at hlt
          omega
        obtain ⟨i0, i1⟩ := blk_snoc m hm x n (l.drop m) (by rw [List.length_drop]; omega)
        have hmod : (l.drop m).length % m = l.length % m := by
          rw [List.length_drop, ← Nat.mod_eq_sub_mod (by omega)]
        have hcut : blk m (l ++ [x]) = cat (l.take m) :: blk m (l.drop m ++ [x]) := by
          rw [blk_cut m hm (l ++ [x]) (by simp), List.take_append_of_le_length (by omega), List.drop_append_of_le_length (by omega)]
        rw [hmod] at i0 i1
        refine ⟨fun h => ?_, fun h => ?_⟩
        · rw [hcut, i0 h, blk_cut m hm l e]
          rfl
        · obtain ⟨a, b, ha, hb⟩ := i1 h
          exact ⟨cat (l.take m) :: a, b, by rw [blk_cut m hm l e, ha]; rfl, by rw [hcut, hb]; rfl⟩

/-! ### Pack -/
theorem pack_check (a b : Int) (x2 l : List ByteArray) (hl : l.length ≤ 140737488355328) (hs : ∀ x ∈ l, (x.size : Int) = a) (r : List ByteArray × Int)
    (h : Ev (fun k => fixed_Pack.l1 k x2 [] (mst a b)) r) (d : Nat) : ∀ i : Nat, l.length = i + d → Ev (fun k => fixed_Pack.l0 k a b x2 l (l.length : Int) (i : Int)) r := by
  induction d with
  | zero =>
    intro i hd
    refine Ev.step (f := fun k => fixed_Pack.l1 k x2 [] (mst a b)) (fun k => ?_) h
    simp only [fixed_Pack.l0]
    rw [if_neg (by omega), most_f]
    rfl
  | succ d ih =>
    intro i hd
    refine Ev.step (f := fun k => fixed_Pack.l0 k a b x2 l (l.length : Int) ((i + 1 : Nat) : Int)) (fun k => ?_) (ih (i + 1) (by omega))
    simp only [fixed_Pack.l0]
    rw [if_pos (by omega), if_pos (by omega), if_pos (by omega), rd_at l i (by omega), if_pos (hs _ (List.getElem_mem _)), w64 (by omega) (by omega)]
    rfl
theorem pack_bad (a b : Int) (x2 l : List ByteArray) (hl : l.length ≤ 140737488355328) (d : Nat) : ∀ i : Nat, l.length = i + d → (∃ x ∈ l.drop i, (x.size : Int) ≠ a) → Ev (fun k => fixed_Pack.l0 k a b x2 l (l.length : Int) (i : Int)) ([], 2) := by
  induction d with
  | zero =>
    intro i hd hx
    rw [List.drop_of_length_le (by omega)] at hx
    obtain ⟨x, hx, _⟩ := hx
    cases hx
  | succ d ih =>
    intro i hd hx
    by_cases hi : ((l[i]'(by omega)).size : Int) = a
    · refine Ev.step (f := fun k => fixed_Pack.l0 k a b x2 l (l.length : Int) ((i + 1 : Nat) : Int)) (fun k => ?_) (ih (i + 1) (by omega) ?_)
      · simp only [fixed_Pack.l0]
        rw [if_pos (by omega), if_pos (by omega), if_pos (by omega), rd_at l i (by omega), if_pos hi, w64 (by omega) (by omega)]
        rfl
      · obtain ⟨x, hx, hne⟩ := hx
        rw [List.drop_eq_getElem_cons (by omega)] at hx
        rcases List.mem_cons.mp hx with rfl | hx
        · exact absurd hi hne
        · exact ⟨x, hx, hne⟩
    · refine Ev.step (f := fun _ => some ([], 2)) (fun k => ?_) (Ev.now _)
      simp only [fixed_Pack.l0]
      rw [if_pos (by omega), if_pos (by omega), if_pos (by omega), rd_at l i (by omega), if_neg hi]
theorem cat_take_le (l : List ByteArray) (m : Nat) : (cat (l.take m)).size ≤ (cat l).size ∧ (cat (l.drop m)).size ≤ (cat l).size := by
  have h : (cat l).size = (cat (l.take m)).size + (cat (l.drop m)).size := by
    rw [size_list, size_list, size_list, cat_data, cat_data, cat_data, ← List.length_append, ← List.flatten_append, ← List.map_append, List.take_append_drop]
  omega
theorem pack_l1 (m : Nat) (hm : 1 ≤ m) (n : Nat) : ∀ (l out : List ByteArray), l.length ≤ n → out.length + l.length ≤ 1000000 → (cat l).size ≤ 140737488355328 → Ev (fun k => fixed_Pack.l1 k l out (m : Int)) (out ++ blk m l, 0) := by
  induction n with
  | zero =>
    intro l out hn ho hc
    obtain rfl : l = [] := List.eq_nil_of_length_eq_zero (by omega)
    refine Ev.step (f := fun _ => some (out ++ blk m [], 0)) (fun k => ?_) (Ev.now _)
    simp only [fixed_Pack.l1]
    rw [if_neg (by simp), blk_nil, List.append_nil]
  | succ n ih =>
    intro l out hn ho hc
    by_cases e : l = []
    · subst e
      exact ih [] out (by simp) ho hc
    · have h0 : 0 < l.length := List.length_pos_iff.mpr e
      obtain ⟨q, hq, hq2, htake, hdrop⟩ : ∃ q : Nat, mn (m : Int) (l.length : Int) = q ∧ q ≤ l.length ∧ l.take q = l.take m ∧ l.drop q = l.drop m := by
        by_cases hlt : (l.length : Int) < m
        · exact ⟨l.length, by unfold mn; rw [if_pos hlt], Nat.le_refl _, by rw [List.take_of_length_le (Nat.le_refl _), List.take_of_length_le (by omega)], by rw [List.drop_of_length_le (Nat.le_refl _), List.drop_of_length_le (by omega)]⟩
        · exact ⟨m, by unfold mn; rw [if_neg hlt], by omega, rfl, rfl⟩
      have hc2 := cat_take_le l m
      have := ih (l.drop m) (out ++ [cat (l.take m)]) (by rw [List.length_drop]; omega) (by rw [List.length_append, List.length_singleton, List.length_drop]; omega) (by omega)
      rw [List.append_assoc, List.singleton_append, ← blk_cut m hm l e] at this
      refine Ev.step (f := fun k => fixed_Pack.l1 k (l.drop m) (out ++ [cat (l.take m)]) (m : Int)) (fun k => ?_) this
      simp only [fixed_Pack.l1]
      rw [hq, if_pos (by omega), if_pos (by omega), if_pos (by omega), Int.toNat_natCast, htake, hdrop, join_f _ (by omega) (by rw [List.length_take]; omega)]
      simp only [Option.bind_some]
      rw [if_pos (by omega)]
theorem pack_ev (a b : Int) (hv : vld a b = true) (l : List ByteArray) (hl : l.length ≤ 10000) (hs : ∀ x ∈ l, (x.size : Int) = a) : Ev (fun k => fixed_Pack.f k a b l) (blk (mst a b).toNat l, 0) := by
  have hm := mst_pos hv
  have hb := vld_true hv
  obtain ⟨n, rfl⟩ := Int.eq_ofNat_of_zero_le (show 0 ≤ a by omega)
  have hc : (cat l).size = l.length * n := cat_size l n (fun x hx => by have := hs x hx; omega)
  have hc2 : (cat l).size ≤ 140737488355328 := by
    rw [hc]
    exact Nat.le_trans (Nat.mul_le_mul hl (show n ≤ 1000 by omega)) (by decide)
  have h1 := pack_l1 (mst n b).toNat (by omega) l.length l [] (Nat.le_refl _) (by simp; omega) hc2
  rw [List.nil_append, Int.toNat_of_nonneg (by omega)] at h1
  have h2 := pack_check n b l l (by omega) hs _ h1 l.length 0 (by omega)
  refine Ev.congr (fun k => ?_) h2
  unfold fixed_Pack.f
  rw [valid_f, hv]
  simp only [Option.bind_some, if_true]
  rfl
theorem pack_novld (a b : Int) (hv : vld a b = false) (l : List ByteArray) : Ev (fun k => fixed_Pack.f k a b l) ([], 1) := by
  refine Ev.congr (fun k => ?_) (Ev.now _)
  unfold fixed_Pack.f
  rw [valid_f, hv]
  rfl
theorem pack_range (a b : Int) (hv : vld a b = true) (l : List ByteArray) (hl : l.length ≤ 10000) (hs : ∃ x ∈ l, (x.size : Int) ≠ a) : Ev (fun k => fixed_Pack.f k a b l) ([], 2) := by
  refine Ev.congr (fun k => ?_) (pack_bad a b l l (by omega) l.length 0 (by omega) (by simpa using hs))
  unfold fixed_Pack.f
  rw [valid_f, hv]
  simp only [Option.bind_some, if_true]
  rfl

/-! ### the example -/
theorem awake_ev : Ev (fun k => dasdlaw10_awake.f k) true := by
  refine Ev.of dasdlaw10_awake.mono (k := 12) ?_
  decide +kernel
end Go.Proofs.Ytginemabhdjmfaa.Base
