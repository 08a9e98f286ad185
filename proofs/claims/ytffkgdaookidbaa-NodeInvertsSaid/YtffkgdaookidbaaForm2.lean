/-
Plain laws on a node's form: what Size and Encode answer, the program's and the reference's.
-/
import Derived.Test.YtffkgdaookidbaaForm
set_option linter.unusedVariables false
namespace Go.Proofs.Ytffkgdaookidbaa.Form
open Go.RowKit Go.Proofs.Ytffkgdaookidbaa.XNx Go.Proofs.Ytffkgdaookidbaa.Base Go.Proofs.YtffkgdaookidbaaW.PrintWords Go.Proofs.YtffkgdaookidbaaW.PrintLast Go.Proofs.YtffkgdaookidbaaW.PrintMore

structure Fine (a b : Int) (l : List S32) : Prop where
  n1 : 1 ≤ l.length
  n2 : l.length ≤ 120
  a1 : 0 ≤ a
  a2 : a ≤ 6
  b1 : 0 ≤ b
  b2 : b ≤ 16777216
  s : ∀ i, i < l.length → (en l i).f0.size ≤ 32
  p1 : ∀ i, i < l.length → 1 ≤ (en l i).f1
  p2 : ∀ i, i < l.length → (en l i).f1 ≤ 16777216
theorem fine {a b : Int} {l : List S32} (h : valid a b l = true) : Fine a b l := by
  obtain ⟨hh, hi⟩ := (valid_iff a b l).mp h
  obtain ⟨h1, h2, h3, h4, h5, h6⟩ := of_decide_eq_true hh
  exact ⟨h1, h2, h3, h4, h5, h6, fun i h => ((okAt_iff l i).mp (hi i h)).1.2.2, fun i h => ((okAt_iff l i).mp (hi i h)).1.1, fun i h => ((okAt_iff l i).mp (hi i h)).1.2.1⟩
theorem Fine.small {a b : Int} {l : List S32} (h : Fine a b l) : small l := ⟨Nat.le_trans h.n2 (by decide), fun i hi => Nat.le_trans (h.s i hi) (by decide)⟩
theorem Fine.mem {a b : Int} {l : List S32} (h : Fine a b l) : ∀ x ∈ l, x.f0.size ≤ 32 ∧ 1 ≤ x.f1 ∧ x.f1 ≤ 16777216 := by
  intro x hx
  obtain ⟨i, hi, rfl⟩ := List.mem_iff_getElem.mp hx
  rw [← en_get l i hi]
  exact ⟨h.s i hi, h.p1 i hi, h.p2 i hi⟩
theorem Fine.len {a b : Int} {l : List S32} (h : Fine a b l) : (frm a b l).length ≤ 4566 := by
  have := encA_len l (fun x hx => (h.mem x hx).1) ⟨#[]⟩
  have := h.n2
  rw [frm_len]
  omega
theorem encA_at (l : List S32) (i : Nat) (h : i < l.length) : encA (prev l i) (l.drop i) = enc1 (prev l i) (en l i) ++ encA (prev l (i + 1)) (l.drop (i + 1)) := by
  rw [drop_en l i h, prev_succ, encA]
theorem encA_end (l : List S32) (p : ByteArray) (i : Nat) (h : l.length ≤ i) : encA p (l.drop i) = [] := by
  rw [List.drop_of_length_le h, encA]
theorem F_le (l : List S32) (i : Nat) : F l i ≤ (en l i).f0.size := by
  have := (cf_le (L (prev l i)) (L (en l i).f0)).2
  rw [L_len] at this
  exact this
theorem enc1_F (l : List S32) (i : Nat) : ((enc1 (prev l i) (en l i)).length : Int) = 6 + (en l i).f0.size - F l i := enc1_len _ _

/-! ### Size -/
theorem size_l0 (a b : Int) (l : List S32) (hl : small l) (t : List Int) (ht : t.length = l.length) (hF : ∀ j, j < l.length → rd t (j : Int) = F l j) (d : Nat) : ∀ (i s : Nat), l.length = i + d → s + (encA (prev l i) (l.drop i)).length ≤ 1000000000 →
    Ev (fun k => node_Size.l0 k (s : Int) t (l.length : Int) (i : Int) a b l) ((s + (encA (prev l i) (l.drop i)).length : Nat) : Int) := by
  have hll := hl.1
  induction d with
  | zero =>
    intro i s h1 h2
    refine Ev.step (f := fun _ => some _) (fun k => ?_) (Ev.now _)
    rw [node_Size.l0, if_neg (by omega), encA_end l _ i (by omega)]
    rfl
  | succ d ih =>
    intro i s h1 h2
    rw [encA_at l i (by omega), List.length_append] at h2 ⊢
    have he := enc1_F l i
    have hs := hl.2 i (by omega)
    have hf := F_le l i
    have := ih (i + 1) (s + (enc1 (prev l i) (en l i)).length) (by omega) (by omega)
    rw [← Nat.add_assoc]
    refine Ev.step (fun k => ?_) this
    show node_Size.l0 (k + 1) (s : Int) t (l.length : Int) (i : Int) a b l = node_Size.l0 k ((s + (enc1 (prev l i) (en l i)).length : Nat) : Int) t (l.length : Int) ((i + 1 : Nat) : Int) a b l
    rw [node_Size.l0, if_pos (by omega), if_pos (by omega), if_pos (by omega), if_pos (by omega), hF i (by omega)]
    have e1 : rd_T32 l (i : Int) = en l i := rfl
    rw [e1, w64 (x := 6 + ((en l i).f0.size : Int)) (by omega) (by omega), w64 (x := 6 + ((en l i).f0.size : Int) - (F l i : Int)) (by omega) (by omega), w64 (by omega) (by omega), w64 (by omega) (by omega),
      show (s : Int) + (6 + ((en l i).f0.size : Int) - (F l i : Int)) = ((s + (enc1 (prev l i) (en l i)).length : Nat) : Int) by omega]
    rfl
theorem drop0 (l : List S32) : encA (prev l 0) (l.drop 0) = encA ⟨#[]⟩ l := rfl
theorem size_ev (a b : Int) (l : List S32) (hl : l.length ≤ 9223372036854775807) : Ev (fun k => node_Size.f k a b l) (if valid a b l = true then ((frm a b l).length : Int) else 0) := by
  unfold node_Size.f
  refine Ev.bind (plain_ev a b l hl) ?_
  cases hv : valid a b l with
  | false => exact Ev.congr (fun k => if_neg (by simp)) (Ev.now _)
  | true =>
    have h := fine hv
    have hlen := h.len
    rw [frm_len] at hlen
    obtain ⟨t, e, p, q⟩ := fronts_ev l h.small
    refine Ev.congr (fun k => if_pos rfl) ?_
    refine Ev.bind e ?_
    rw [p, if_pos rfl, frm_len, ← drop0]
    exact size_l0 a b l h.small t p q l.length 0 6 (by omega) (by rw [drop0]; omega)

/-! ### Encode -/
def okS (a : Int) : Bool := decide (a = 128 ∨ a = 256 ∨ a = 512)
theorem isSize_f (a : Int) : node_isSize.f a = some (okS a) := by
  unfold node_isSize.f okS
  split
  · rw [decide_eq_true (by omega)]
  · split
    · rw [decide_eq_true (by omega)]
    · congr 1
      rw [Bool.eq_iff_iff, beq_iff_eq, decide_eq_true_eq]
      omega
theorem risSize_f (a : Int) : dasdref17_IsSize.f a = some (okS a) := isSize_f a
def enc (sz a b : Int) (l : List S32) : ByteArray × Int :=
  if okS sz = true ∧ valid a b l = true then (if ((frm a b l).length : Int) > sz then (⟨#[]⟩, 8) else (mk (frm a b l ++ List.replicate (sz.toNat - (frm a b l).length) 0), 0)) else (⟨#[]⟩, 1)
theorem repeatL_zero : ∀ n : Nat, Lib.repeatL [(0 : UInt8)] n = List.replicate n 0
  | 0 => rfl
  | n + 1 => by
    rw [List.replicate_succ, ← repeatL_zero n]
    rfl
theorem repeat_f (n : Nat) (h : n ≤ 1000000) : strings_Repeat.f (⟨#[0]⟩ : ByteArray) (n : Int) = some (mk (List.replicate n 0)) := by
  unfold strings_Repeat.f
  rw [if_pos ⟨by omega, by omega, by show 1 * _ ≤ _; rw [Int.toNat_natCast]; omega⟩, Int.toNat_natCast, ← repeatL_zero]
  rfl
theorem four_u (x : Int) : ([(x) % 256, (x / 256) % 256, (x / 65536) % 256, (x / 16777216) % 256] : List Int).map u = four x := rfl
theorem enc_l0 (sz : Nat) (hsz : sz ≤ 512) (a b : Int) (l : List S32) (hl : Fine a b l) (t : List Int) (ht : t.length = l.length) (hF : ∀ j, j < l.length → rd t (j : Int) = F l j) (d : Nat) : ∀ (i : Nat) (x : List Int), l.length = i + d → x.length + (encA (prev l i) (l.drop i)).length ≤ sz →
    Ev (fun k => node_Encode.l0 k (sz : Int) x t (l.length : Int) (i : Int) a b l) (mk (x.map u ++ encA (prev l i) (l.drop i) ++ List.replicate (sz - (x.length + (encA (prev l i) (l.drop i)).length)) 0), 0) := by
  have hll := hl.n2
  induction d with
  | zero =>
    intro i x h1 h2
    rw [encA_end l _ i (by omega)] at h2 ⊢
    rw [List.length_nil, Nat.add_zero] at h2 ⊢
    refine Ev.step (f := fun _ => some _) (fun k => ?_) (Ev.now _)
    rw [node_Encode.l0, if_neg (by omega), w64 (by omega) (by omega), show (sz : Int) - (x.length : Int) = ((sz - x.length : Nat) : Int) by omega, repeat_f _ (by omega), Option.bind_some]
    have e1 : (strOfNums x).size = x.length := by rw [← L_len, L_nums, List.length_map]
    rw [e1, mk_size, List.length_replicate, if_pos (by omega)]
    congr 2
    apply ba_ext
    show L _ = L _
    rw [L_app, L_nums, L_mk, L_mk, List.append_nil]
  | succ d ih =>
    intro i x h1 h2
    have hf := F_le l i
    have hs := hl.s i (by omega)
    have he := enc1_F l i
    rw [encA_at l i (by omega), List.length_append] at h2
    have ex : L (((en l i).f0).extract ((F l i : Nat) : Int).toNat (en l i).f0.size) = (L (en l i).f0).drop (F l i) := by rw [Int.toNat_natCast, L_from]
    have exs : (((en l i).f0).extract ((F l i : Nat) : Int).toNat (en l i).f0.size).size = (en l i).f0.size - F l i := by rw [← L_len, ex, List.length_drop, L_len]
    generalize hX : (((en l i).f0).extract ((F l i : Nat) : Int).toNat (en l i).f0.size) = X at ex exs
    have e2 : (x ++ [(F l i : Int) % 256, (X.size : Int) % 256] ++ bytesOf X ++ [((en l i).f1) % 256, ((en l i).f1 / 256) % 256, ((en l i).f1 / 65536) % 256, ((en l i).f1 / 16777216) % 256]).map u = x.map u ++ enc1 (prev l i) (en l i) := by
      rw [List.map_append, List.map_append, List.map_append, four_u, nums_bytes, ex, exs, show (F l i : Int) % 256 = (F l i : Int) by omega, show (((en l i).f0.size - F l i : Nat) : Int) % 256 = ((en l i).f0.size : Int) - (F l i : Int) by omega, List.append_assoc, List.append_assoc]
      rfl
    have e3 : (x ++ [(F l i : Int) % 256, (X.size : Int) % 256] ++ bytesOf X ++ [((en l i).f1) % 256, ((en l i).f1 / 256) % 256, ((en l i).f1 / 65536) % 256, ((en l i).f1 / 16777216) % 256]).length = x.length + (enc1 (prev l i) (en l i)).length := by
      rw [← List.length_map (f := u), e2, List.length_append, List.length_map]
    generalize hy : (x ++ [(F l i : Int) % 256, (X.size : Int) % 256] ++ bytesOf X ++ [((en l i).f1) % 256, ((en l i).f1 / 256) % 256, ((en l i).f1 / 65536) % 256, ((en l i).f1 / 16777216) % 256]) = y at e2 e3
    have := ih (i + 1) y (by omega) (by omega)
    rw [e2, e3] at this
    rw [encA_at l i (by omega), List.length_append, ← Nat.add_assoc, ← List.append_assoc]
    refine Ev.step (fun k => ?_) this
    show node_Encode.l0 (k + 1) (sz : Int) x t (l.length : Int) (i : Int) a b l = node_Encode.l0 k (sz : Int) y t (l.length : Int) ((i + 1 : Nat) : Int) a b l
    have e1 : rd_T32 l (i : Int) = en l i := rfl
    rw [node_Encode.l0, if_pos (by omega), if_pos (by omega), if_pos (by omega), if_pos (by omega), hF i (by omega), e1, if_pos (by omega), if_pos (by omega), hX, Option.bind_some, if_pos (by simp only [List.length_cons, List.length_nil]; omega), Option.bind_some, if_pos (by simp only [List.length_append, List.length_cons, List.length_nil]; omega), Option.bind_some]
    show (some ([((en l i).f1) % 256, ((en l i).f1 / 256) % 256, ((en l i).f1 / 65536) % 256, ((en l i).f1 / 16777216) % 256] : List Int)).bind _ = _
    rw [Option.bind_some, if_pos (by simp only [List.length_append, List.length_cons, List.length_nil, bytesOf_length]; omega), hy, w64 (by omega) (by omega)]
    rfl
theorem enc_ev (sz a b : Int) (l : List S32) (hl : l.length ≤ 9223372036854775807) : Ev (fun k => node_Encode.f k sz a b l) (enc sz a b l) := by
  unfold node_Encode.f enc
  rw [isSize_f, ]
  refine Ev.bind (f := fun k t127 => (if t127 = true then ((node_plain.f k a b l).bind fun t128 => (node_Encode.j0 k sz (!t128) a b l)) else (node_Encode.j0 k sz true a b l))) (Ev.now _) ?_
  have bad : Ev (fun k => node_Encode.j0 k sz true a b l) ((⟨#[]⟩ : ByteArray), (1 : Int)) := Ev.step (f := fun _ => some _) (fun k => by rw [node_Encode.j0, if_pos rfl]) (Ev.now _)
  cases hz : okS sz with
  | false => exact Ev.congr (fun k => if_neg (by simp)) bad
  | true =>
    refine Ev.congr (fun k => if_pos rfl) ?_
    refine Ev.bind (plain_ev a b l hl) ?_
    cases hv : valid a b l with
    | false => exact bad
    | true =>
      rw [if_pos ⟨rfl, rfl⟩]
      have h := fine hv
      have hlen := h.len
      have hze := of_decide_eq_true hz
      obtain ⟨n, hn⟩ : ∃ n : Nat, sz = (n : Int) := ⟨sz.toNat, by omega⟩
      subst hn
      have hsize := size_ev a b l hl
      rw [if_pos hv] at hsize
      refine Ev.step (fun k => by rw [node_Encode.j0, if_neg (by simp)]) ?_
      refine Ev.bind hsize ?_
      by_cases hbig : ((frm a b l).length : Int) > (n : Int)
      · rw [if_pos hbig]
        exact Ev.congr (fun k => if_pos hbig) (Ev.now _)
      · rw [if_neg hbig]
        refine Ev.congr (fun k => if_neg hbig) ?_
        obtain ⟨t, e, p, q⟩ := fronts_ev l h.small
        refine Ev.congr (f := fun k => (node_fronts.f k l).bind fun t142 => (node_Encode.l0 k (n : Int) ((([a % 256] ++ [b % 256, (b / 256) % 256, (b / 65536) % 256, (b / 16777216) % 256]) ++ [(l.length : Int) % 256]) : List Int) t142 (t142.length : Int) 0 a b l)) (fun k => ?_) ?_
        · rw [Option.bind_some]
          show (some ([b % 256, (b / 256) % 256, (b / 65536) % 256, (b / 16777216) % 256] : List Int)).bind _ = _
          rw [Option.bind_some, if_pos (by simp only [List.length_cons, List.length_nil]; omega), Option.bind_some, if_pos (by simp only [List.length_append, List.length_cons, List.length_nil]; omega)]
        · refine Ev.bind e ?_
          rw [p]
          have hl6 : (([a % 256] ++ [b % 256, (b / 256) % 256, (b / 65536) % 256, (b / 16777216) % 256]) ++ [(l.length : Int) % 256] : List Int).length = 6 := rfl
          rw [frm_len] at hbig
          have := enc_l0 n (by omega) a b l h t p q l.length 0 (([a % 256] ++ [b % 256, (b / 256) % 256, (b / 65536) % 256, (b / 16777216) % 256]) ++ [(l.length : Int) % 256]) (by omega) (by rw [drop0, hl6]; omega)
          rw [hl6, drop0, ← frm_len a b l] at this
          exact this

/-! ### the reference's form and Encode -/
theorem rfour_f (x : Int) (h0 : 0 ≤ x) (h1 : x ≤ 16777216) : dasdref20_four.f x = some (mk (four x)) := by
  unfold dasdref20_four.f
  congr 1
  apply ba_ext
  show L _ = L _
  rw [L_mk, L_nums]
  rw [Int.tdiv_eq_ediv_of_nonneg h0, Int.tdiv_eq_ediv_of_nonneg h0, w64 (x := x / 256) (by omega) (by omega), w64 (x := x / 65536) (by omega) (by omega), Int.tdiv_eq_ediv_of_nonneg (a := x / 65536) (by omega), w64 (by omega) (by omega),
    Int.tmod_eq_emod_of_nonneg h0, Int.tmod_eq_emod_of_nonneg (a := x / 256) (by omega), Int.tmod_eq_emod_of_nonneg (a := x / 65536) (by omega), Int.tmod_eq_emod_of_nonneg (a := x / 65536 / 256) (by omega)]
  simp only [List.map_cons, List.map_nil, four]
  rw [show x % 256 % 256 = x % 256 by omega, show x / 256 % 256 % 256 = x / 256 % 256 by omega, show x / 65536 % 256 % 256 = x / 65536 % 256 by omega, show x / 65536 / 256 % 256 % 256 = x / 16777216 % 256 by omega]
theorem form_l0 (a b : Int) (l : List S32) (hl : Fine a b l) (d : Nat) : ∀ (i : Nat) (x : ByteArray), l.length = i + d → x.size + (encA (prev l i) (l.drop i)).length ≤ 1000000 →
    Ev (fun k => dasdref20_form.l0 k x (prev l i) (i : Int) a b l) (mk (L x ++ encA (prev l i) (l.drop i))) := by
  have hll := hl.n2
  induction d with
  | zero =>
    intro i x h1 h2
    refine Ev.step (f := fun _ => some _) (fun k => ?_) (Ev.now _)
    rw [dasdref20_form.l0, if_neg (by omega), encA_end l _ i (by omega), List.append_nil, mk_L]
  | succ d ih =>
    intro i x h1 h2
    have hf := F_le l i
    have hs := hl.s i (by omega)
    have he := enc1_F l i
    rw [encA_at l i (by omega), List.length_append] at h2
    have e1 : rd_T32 l (i : Int) = en l i := rfl
    have ex : L (((en l i).f0).extract ((F l i : Nat) : Int).toNat (en l i).f0.size) = (L (en l i).f0).drop (F l i) := by rw [Int.toNat_natCast, L_from]
    have exs : (((en l i).f0).extract ((F l i : Nat) : Int).toNat (en l i).f0.size).size = (en l i).f0.size - F l i := by rw [← L_len, ex, List.length_drop, L_len]
    generalize hX : (((en l i).f0).extract ((F l i : Nat) : Int).toNat (en l i).f0.size) = X at ex exs
    have ew : wrap64 (((en l i).f0.size : Int) - (F l i : Int)) = ((en l i).f0.size : Int) - (F l i : Int) := w64 (by omega) (by omega)
    have e2 : L (((x ++ strOfNums [(F l i : Int) % 256, (((en l i).f0.size : Int) - (F l i : Int)) % 256]) ++ X) ++ mk (four (en l i).f1)) = L x ++ enc1 (prev l i) (en l i) := by
      rw [L_app, L_app, L_app, L_mk, L_nums, ex, show (F l i : Int) % 256 = (F l i : Int) by omega, show (((en l i).f0.size : Int) - (F l i : Int)) % 256 = ((en l i).f0.size : Int) - (F l i : Int) by omega, List.append_assoc, List.append_assoc]
      rfl
    have hns : (strOfNums [(F l i : Int) % 256, (((en l i).f0.size : Int) - (F l i : Int)) % 256]).size = 2 := by rw [← L_len, L_nums]; rfl
    have e3 : (((x ++ strOfNums [(F l i : Int) % 256, (((en l i).f0.size : Int) - (F l i : Int)) % 256]) ++ X) ++ mk (four (en l i).f1)).size = x.size + (enc1 (prev l i) (en l i)).length := by
      rw [← L_len, e2, List.length_append, L_len]
    have hd : dasdref20_four.f (en l i).f1 = some (mk (four (en l i).f1)) := rfour_f _ (by have := hl.p1 i (by omega); omega) (hl.p2 i (by omega))
    have := ih (i + 1) _ (by omega) (by rw [e3]; omega)
    rw [e2] at this
    rw [encA_at l i (by omega), ← List.append_assoc]
    refine Ev.step (f := fun k => (dasdref16_Front.f k (prev l i) (en l i).f0).bind fun t362 => ((some (([(t362) % 256, (wrap64 (((en l i).f0.size : Int) - t362)) % 256] : List Int) : List Int)).bind fun y363 => (if x.size + (strOfNums y363).size ≤ 9223372036854775807 then (if 0 ≤ t362 then (if t362 ≤ ((en l i).f0.size : Int) then (if (x ++ (strOfNums y363)).size + ((en l i).f0.extract (t362 : Int).toNat (en l i).f0.size).size ≤ 9223372036854775807 then ((dasdref20_four.f (en l i).f1).bind fun t366 => (if ((x ++ (strOfNums y363)) ++ ((en l i).f0.extract (t362 : Int).toNat (en l i).f0.size)).size + t366.size ≤ 9223372036854775807 then (dasdref20_form.l0 k (((x ++ (strOfNums y363)) ++ ((en l i).f0.extract (t362 : Int).toNat (en l i).f0.size)) ++ t366) (en l i).f0 (wrap64 ((i : Int) + 1)) a b l) else (none))) else (none)) else (none)) else (none)) else (none)))) (fun k => ?_) ?_
    · rw [dasdref20_form.l0, if_pos (by omega), if_pos (by omega)]
      rfl
    · refine Ev.bind (rfront_ev _ _ (Nat.le_trans (prev_small hl.small i (by omega)) (by decide)) (Nat.le_trans hs (by decide))) ?_
      have hFF : cf (L (prev l i)) (L (en l i).f0) = F l i := rfl
      rw [hFF]
      refine Ev.congr (fun k => ?_) this
      rw [Option.bind_some, ew, hX, if_pos (by rw [hns]; omega), if_pos (by omega), if_pos (by omega), if_pos (by rw [ByteArray.size_append, hns]; omega), hd, Option.bind_some, if_pos (by rw [← ByteArray.size_append, e3]; omega), w64 (by omega) (by omega), prev_succ]
      rfl
theorem form_ev (a b : Int) (l : List S32) (hv : valid a b l = true) : Ev (fun k => dasdref20_form.f k a b l) (mk (frm a b l)) := by
  have h := fine hv
  have hlen := h.len
  rw [frm_len] at hlen
  have n1 : ∀ x : Int, (strOfNums [x]).size = 1 := fun x => by rw [← L_len, L_nums]; rfl
  have hd : dasdref20_four.f b = some (mk (four b)) := rfour_f _ h.b1 h.b2
  have e2 : L ((strOfNums [a % 256] ++ mk (four b)) ++ strOfNums [(l.length : Int) % 256]) = [u (a % 256)] ++ four b ++ [u ((l.length : Int) % 256)] := by
    rw [L_app, L_app, L_nums, L_nums, L_mk]
    rfl
  have := form_l0 a b l h l.length 0 ((strOfNums [a % 256] ++ mk (four b)) ++ strOfNums [(l.length : Int) % 256]) (by omega) (by rw [← L_len, e2, drop0]; simp only [four, List.length_append, List.length_cons, List.length_nil]; omega)
  rw [e2, drop0] at this
  refine Ev.congr (fun k => ?_) this
  unfold dasdref20_form.f
  rw [Option.bind_some, hd, Option.bind_some, if_pos (by rw [n1, mk_size]; show 1 + 4 ≤ _; omega), Option.bind_some, if_pos (by rw [ByteArray.size_append, n1, n1, mk_size]; show 1 + 4 + 1 ≤ _; omega)]
  rfl
theorem renc_ev (sz a b : Int) (l : List S32) (hl : l.length ≤ 9223372036854775807) : Ev (fun k => dasdref20_Encode.f k sz a b l) (enc sz a b l) := by
  unfold dasdref20_Encode.f enc
  rw [risSize_f]
  refine Ev.bind (f := fun k t127 => (if t127 = true then ((dasdref20_IsNode.f k a b l).bind fun t128 => (dasdref20_Encode.j0 k sz (!t128) a b l)) else (dasdref20_Encode.j0 k sz true a b l))) (Ev.now _) ?_
  have bad : Ev (fun k => dasdref20_Encode.j0 k sz true a b l) ((⟨#[]⟩ : ByteArray), (1 : Int)) := Ev.step (f := fun _ => some _) (fun k => by rw [dasdref20_Encode.j0, if_pos rfl]) (Ev.now _)
  cases hz : okS sz with
  | false => exact Ev.congr (fun k => if_neg (by simp)) bad
  | true =>
    refine Ev.congr (fun k => if_pos rfl) ?_
    refine Ev.bind (isnode_ev a b l hl) ?_
    cases hv : valid a b l with
    | false => exact bad
    | true =>
      rw [if_pos ⟨rfl, rfl⟩]
      have h := fine hv
      have hlen := h.len
      have hze := of_decide_eq_true hz
      obtain ⟨n, hn⟩ : ∃ n : Nat, sz = (n : Int) := ⟨sz.toNat, by omega⟩
      subst hn
      refine Ev.step (fun k => by rw [dasdref20_Encode.j0, if_neg (by simp)]) ?_
      refine Ev.bind (form_ev a b l hv) ?_
      rw [mk_size]
      by_cases hbig : ((frm a b l).length : Int) > (n : Int)
      · rw [if_pos hbig, if_pos hbig]
        exact Ev.now _
      · rw [if_neg hbig, if_neg hbig]
        refine Ev.congr (fun k => ?_) (Ev.now _)
        have hz2 : (strOfNums (List.replicate (n - (frm a b l).length) 0)).size = n - (frm a b l).length := by rw [← L_len, L_nums, List.length_map, List.length_replicate]
        rw [w64 (by omega) (by omega), show (n : Int) - ((frm a b l).length : Int) = ((n - (frm a b l).length : Nat) : Int) by omega, if_pos (by omega), Int.toNat_natCast, if_pos (by omega), Option.bind_some, hz2, if_pos (by omega), Int.toNat_natCast]
        congr 2
        apply ba_ext
        show L _ = L _
        rw [L_app, L_nums, L_mk, L_mk, List.map_replicate]
        rfl
end Go.Proofs.Ytffkgdaookidbaa.Form
