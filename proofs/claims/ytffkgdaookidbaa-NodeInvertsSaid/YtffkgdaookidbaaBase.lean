/-
Plain laws on nodes: validity, as the printed functions plain (the program's) and IsNode (the reference's) answer it; the order of keys; the example.
-/
import Derived.Test.YtffkgdaookidbaaXNx5
import Derived.Test.YtffkgdaookidbaaXNx14
set_option linter.unusedVariables false
namespace Go.Proofs.Ytffkgdaookidbaa.Base
open Go.RowKit Go.Proofs.Ytffkgdaookidbaa.XNx Go.Proofs.YtffkgdaookidbaaW.PrintWords Go.Proofs.YtffkgdaookidbaaW.PrintLast Go.Proofs.YtffkgdaookidbaaW.PrintMore

theorem w64 {x : Int} (h0 : -9223372036854775808 ≤ x) (h1 : x ≤ 9223372036854775807) : wrap64 x = x := by
  unfold wrap64
  omega

/-! ### the order of keys -/
def less (a b : ByteArray) : Bool := Op.bytesLess a.toList b.toList
theorem ba_ext {a b : ByteArray} (h : a.data.toList = b.data.toList) : a = b := by
  cases a; cases b
  congr
  exact Array.toList_inj.mp h
theorem size_list (a : ByteArray) : a.size = a.data.toList.length := by rw [Array.length_toList]; rfl
theorem toList_inj {a b : ByteArray} (h : a.toList = b.toList) : a = b := ba_ext (by rw [← ByteArray.toList_eq, ← ByteArray.toList_eq, h])
theorem empty_iff (d : ByteArray) : d.toList = ([] : List UInt8) ↔ d.size = 0 := by
  rw [ByteArray.toList_eq, size_list, List.length_eq_zero_iff]
theorem less_empty (b : ByteArray) : less ⟨#[]⟩ b = !(b.toList == ([] : List UInt8)) := by
  unfold less
  rw [show (⟨#[]⟩ : ByteArray).toList = [] from (empty_iff _).mpr rfl]
  cases b.toList <;> rfl
/-! ### validity -/
def en (l : List S32) (i : Nat) : S32 := rd_T32 l (i : Int)
theorem en_get (l : List S32) (i : Nat) (h : i < l.length) : en l i = l[i] := by
  unfold en rd_T32
  rw [Int.toNat_natCast, List.getD_eq_getElem?_getD, List.getElem?_eq_getElem h]
  rfl
def okHead (a b : Int) (l : List S32) : Bool := decide (1 ≤ l.length ∧ l.length ≤ 120 ∧ 0 ≤ a ∧ a ≤ 6 ∧ 0 ≤ b ∧ b ≤ 16777216)
def okAt (l : List S32) (i : Nat) : Bool :=
  decide (1 ≤ (en l i).f1 ∧ (en l i).f1 ≤ 16777216 ∧ (en l i).f0.size ≤ 32) && (((en l i).f0.toList == ([] : List UInt8)) == decide (i + 1 = l.length)) && (decide (i = 0) || decide (i + 1 = l.length) || less (en l (i - 1)).f0 (en l i).f0)
def valid (a b : Int) (l : List S32) : Bool := okHead a b l && (List.range l.length).all (okAt l)
theorem valid_iff (a b : Int) (l : List S32) : valid a b l = true ↔ okHead a b l = true ∧ ∀ i, i < l.length → okAt l i = true := by
  unfold valid
  rw [Bool.and_eq_true, List.all_eq_true]
  simp
theorem valid_bad (a b : Int) (l : List S32) (i : Nat) (hi : i < l.length) (h : okAt l i = false) : valid a b l = false := by
  cases hv : valid a b l with
  | false => rfl
  | true =>
    have := ((valid_iff a b l).mp hv).2 i hi
    rw [h] at this
    cases this
theorem okAt_iff (l : List S32) (i : Nat) : okAt l i = true ↔ (1 ≤ (en l i).f1 ∧ (en l i).f1 ≤ 16777216 ∧ (en l i).f0.size ≤ 32) ∧ ((en l i).f0.size = 0 ↔ i + 1 = l.length) ∧ (i = 0 ∨ i + 1 = l.length ∨ less (en l (i - 1)).f0 (en l i).f0 = true) := by
  unfold okAt
  rw [Bool.and_eq_true, Bool.and_eq_true, decide_eq_true_eq, beq_iff_eq, Bool.eq_iff_iff, beq_iff_eq, empty_iff, decide_eq_true_eq, Bool.or_eq_true, Bool.or_eq_true, decide_eq_true_eq, decide_eq_true_eq, and_assoc, or_assoc]

/-! ### plain -/
theorem page_f (a : Int) : node_isPage.f a = some (decide (1 ≤ a ∧ a ≤ 16777216)) := by
  unfold node_isPage.f
  split <;> (congr 1; rw [Bool.eq_iff_iff]; simp; omega)
theorem plain_l0 (a b : Int) (l : List S32) (hh : okHead a b l = true) (d : Nat) : ∀ i : Nat, l.length = i + d → (∀ j, j < i → okAt l j = true) →
    Ev (fun k => node_plain.l0 k ((l.length - 1 : Nat) : Int) (if i = 0 then ⟨#[]⟩ else (en l (i - 1)).f0) l (l.length : Int) (i : Int)) (valid a b l) := by
  have hl := of_decide_eq_true hh
  induction d with
  | zero =>
    intro i hi hp
    have hv : valid a b l = true := (valid_iff a b l).mpr ⟨hh, fun j hj => hp j (by omega)⟩
    rw [hv]
    refine Ev.step (f := fun _ => some true) (fun k => ?_) (Ev.now _)
    simp only [node_plain.l0]
    rw [if_neg (by omega)]
  | succ d ih =>
    intro i hi hp
    have hx : rd_T32 l (i : Int) = en l i := rfl
    have elast : ((i : Int) == ((l.length - 1 : Nat) : Int)) = decide (i + 1 = l.length) := by
      rw [Bool.eq_iff_iff, beq_iff_eq, decide_eq_true_eq]
      omega
    have bad : okAt l i = false → (∀ k, node_plain.l0 (k + 1) ((l.length - 1 : Nat) : Int) (if i = 0 then ⟨#[]⟩ else (en l (i - 1)).f0) l (l.length : Int) (i : Int) = some false) → Ev (fun k => node_plain.l0 k ((l.length - 1 : Nat) : Int) (if i = 0 then ⟨#[]⟩ else (en l (i - 1)).f0) l (l.length : Int) (i : Int)) (valid a b l) := by
      intro h he
      rw [valid_bad a b l i (by omega) h]
      exact Ev.step (f := fun _ => some false) he (Ev.now _)
    by_cases hok : okAt l i = true
    · have next := ih (i + 1) (by omega) (fun j hj => by
        by_cases e : j = i
        · rw [e]; exact hok
        · exact hp j (by omega))
      rw [if_neg (by omega), Nat.add_sub_cancel] at next
      obtain ⟨⟨h1, h2, h3⟩, h4, h5⟩ := (okAt_iff l i).mp hok
      refine Ev.step (fun k => ?_) next
      simp only [node_plain.l0]
      rw [if_pos (by omega), if_pos (by omega), if_pos (by omega), hx, page_f, decide_eq_true ⟨h1, h2⟩]
      simp only [Option.bind_some, if_true]
      have hE : ((en l i).f0.toList == ([] : List UInt8)) = decide (i + 1 = l.length) := by
        rw [Bool.eq_iff_iff, beq_iff_eq, empty_iff, decide_eq_true_eq]
        exact h4
      rw [hE, elast, if_neg (by simp), if_neg (by omega), w64 (by omega) (by omega)]
      by_cases hlast : i + 1 = l.length
      · rw [if_neg (by omega)]
        rfl
      · rw [if_pos (by omega), if_pos ?_]
        · rfl
        · by_cases h0 : i = 0
          · rw [if_pos h0]
            have := less_empty (en l i).f0
            unfold less at this
            rw [this, hE, decide_eq_false hlast]
            rfl
          · rw [if_neg h0]
            rcases h5 with h5 | h5 | h5
            · exact absurd h5 h0
            · exact absurd h5 hlast
            · exact h5
    · rw [Bool.not_eq_true] at hok
      apply bad hok
      intro k
      simp only [node_plain.l0]
      rw [if_pos (by omega), if_pos (by omega), if_pos (by omega), hx, page_f]
      simp only [Option.bind_some]
      by_cases h1 : 1 ≤ (en l i).f1 ∧ (en l i).f1 ≤ 16777216
      · rw [decide_eq_true h1, if_pos rfl, elast]
        by_cases h2 : ((en l i).f0.toList == ([] : List UInt8)) = decide (i + 1 = l.length)
        · rw [h2, if_neg (by simp)]
          by_cases h3 : (en l i).f0.size ≤ 32
          · rw [if_neg (by omega)]
            have h4 : i ≠ 0 ∧ i + 1 ≠ l.length ∧ less (en l (i - 1)).f0 (en l i).f0 = false := by
              have hk : ¬ (okAt l i = true) := by rw [hok]; simp
              rw [okAt_iff] at hk
              have h2' : (en l i).f0.size = 0 ↔ i + 1 = l.length := by
                rw [Bool.eq_iff_iff, beq_iff_eq, empty_iff, decide_eq_true_eq] at h2
                exact h2
              refine ⟨fun e => hk ⟨⟨h1.1, h1.2, h3⟩, h2', .inl e⟩, fun e => hk ⟨⟨h1.1, h1.2, h3⟩, h2', .inr (.inl e)⟩, ?_⟩
              cases hle : less (en l (i - 1)).f0 (en l i).f0 with
              | false => rfl
              | true => exact absurd ⟨⟨h1.1, h1.2, h3⟩, h2', .inr (.inr hle)⟩ hk
            rw [if_pos (by omega), if_neg ?_]
            rw [if_neg h4.1]
            have := h4.2.2
            unfold less at this
            rw [this]
            simp
          · rw [if_pos (by omega)]
        · rw [if_pos (by rw [bne_iff_ne]; exact h2)]
      · rw [decide_eq_false h1, if_neg (by simp)]
theorem plain_ev (a b : Int) (l : List S32) (hl : l.length ≤ 9223372036854775807) : Ev (fun k => node_plain.f k a b l) (valid a b l) := by
  have bad : okHead a b l = false → Ev (fun k => node_plain.j0 k true a b l) (valid a b l) := by
    intro h
    have hv : valid a b l = false := by unfold valid; rw [h]; rfl
    rw [hv]
    refine Ev.step (f := fun _ => some false) (fun k => ?_) (Ev.now _)
    simp only [node_plain.j0, if_true]
  have no : okHead a b l = false ↔ ¬ (1 ≤ l.length ∧ l.length ≤ 120 ∧ 0 ≤ a ∧ a ≤ 6 ∧ 0 ≤ b ∧ b ≤ 16777216) := by
    unfold okHead
    rw [decide_eq_false_iff_not]
  unfold node_plain.f
  by_cases c1 : (l.length : Int) < 1
  · exact Ev.congr (fun k => if_pos c1) (bad (no.mpr (by omega)))
  refine Ev.congr (fun k => if_neg c1) ?_
  by_cases c2 : (l.length : Int) > 120
  · exact Ev.congr (fun k => if_pos c2) (bad (no.mpr (by omega)))
  refine Ev.congr (fun k => if_neg c2) ?_
  by_cases c3 : a < 0
  · exact Ev.congr (fun k => if_pos c3) (bad (no.mpr (by omega)))
  refine Ev.congr (fun k => if_neg c3) ?_
  by_cases c4 : a > 6
  · exact Ev.congr (fun k => if_pos c4) (bad (no.mpr (by omega)))
  refine Ev.congr (fun k => if_neg c4) ?_
  by_cases c5 : b < 0
  · exact Ev.congr (fun k => if_pos c5) (bad (no.mpr (by omega)))
  refine Ev.congr (fun k => if_neg c5) ?_
  by_cases c6 : b > 16777216
  · rw [decide_eq_true c6]
    exact bad (no.mpr (by omega))
  rw [decide_eq_false c6]
  have h := plain_l0 a b l (decide_eq_true (by omega)) l.length 0 (by omega) (fun j hj => absurd hj (by omega))
  refine Ev.step (fun k => ?_) h
  simp only [node_plain.j0, Bool.false_eq_true, if_false]
  rw [w64 (by omega) (by omega), show (l.length : Int) - 1 = ((l.length - 1 : Nat) : Int) by omega]
  rfl

/-! ### IsNode -/
theorem isnode_l0 (a b : Int) (l : List S32) (hh : okHead a b l = true) (d : Nat) : ∀ i : Nat, l.length = i + d → (∀ j, j < i → okAt l j = true) →
    Ev (fun k => dasdref20_IsNode.l0 k (i : Int) a b l) (valid a b l) := by
  have hl := of_decide_eq_true hh
  induction d with
  | zero =>
    intro i hi hp
    have hv : valid a b l = true := (valid_iff a b l).mpr ⟨hh, fun j hj => hp j (by omega)⟩
    rw [hv]
    refine Ev.step (f := fun _ => some true) (fun k => ?_) (Ev.now _)
    simp only [dasdref20_IsNode.l0]
    rw [if_neg (by omega)]
  | succ d ih =>
    intro i hi hp
    have hx : rd_T32 l (i : Int) = en l i := rfl
    have ew : wrap64 ((l.length : Int) - 1) = ((l.length - 1 : Nat) : Int) := by
      rw [w64 (by omega) (by omega)]
      omega
    have elast : ((i : Int) == ((l.length - 1 : Nat) : Int)) = decide (i + 1 = l.length) := by
      rw [Bool.eq_iff_iff, beq_iff_eq, decide_eq_true_eq]
      omega
    -- what the test of one entry leads to
    have test : ∀ t : Bool, (t = true → okAt l i = false) → (t = false → (1 ≤ (en l i).f1 ∧ (en l i).f1 ≤ 16777216 ∧ (en l i).f0.size ≤ 32) ∧ ((en l i).f0.size = 0 ↔ i + 1 = l.length)) →
        Ev (fun k => dasdref20_IsNode.j2 k (i : Int) (decide (i + 1 = l.length)) t a b l (en l i).f0 (en l i).f1) (valid a b l) := by
      intro t h1 h2
      cases t with
      | true =>
        rw [valid_bad a b l i (by omega) (h1 rfl)]
        refine Ev.step (f := fun _ => some false) (fun k => ?_) (Ev.now _)
        simp only [dasdref20_IsNode.j2, if_true]
      | false =>
        obtain ⟨h3, h4⟩ := h2 rfl
        have go : okAt l i = true → Ev (fun k => dasdref20_IsNode.l0 k ((i + 1 : Nat) : Int) a b l) (valid a b l) := fun hok => ih (i + 1) (by omega) (fun j hj => by
          by_cases e : j = i
          · rw [e]; exact hok
          · exact hp j (by omega))
        have ei : wrap64 ((i : Int) + 1) = ((i + 1 : Nat) : Int) := w64 (by omega) (by omega)
        by_cases h0 : i = 0
        · refine Ev.step (fun k => ?_) (go ((okAt_iff l i).mpr ⟨h3, h4, .inl h0⟩))
          simp only [dasdref20_IsNode.j2, Bool.false_eq_true, if_false]
          rw [if_neg (by omega), ei]
        · by_cases hlast : i + 1 = l.length
          · refine Ev.step (fun k => ?_) (go ((okAt_iff l i).mpr ⟨h3, h4, .inr (.inl hlast)⟩))
            simp only [dasdref20_IsNode.j2, Bool.false_eq_true, if_false]
            rw [if_pos (by omega), if_pos (decide_eq_true hlast), ei]
          · have e1 : wrap64 ((i : Int) - 1) = ((i - 1 : Nat) : Int) := by
              rw [w64 (by omega) (by omega)]
              omega
            have hy : rd_T32 l ((i - 1 : Nat) : Int) = en l (i - 1) := rfl
            cases hle : less (en l (i - 1)).f0 (en l i).f0 with
            | true =>
              refine Ev.step (fun k => ?_) (go ((okAt_iff l i).mpr ⟨h3, h4, .inr (.inr hle)⟩))
              unfold less at hle
              simp only [dasdref20_IsNode.j2, Bool.false_eq_true, if_false]
              rw [if_pos (by omega), if_neg (by simpa using hlast), e1, if_pos (by omega), if_pos (by omega), hy, if_pos hle, ei]
            | false =>
              have hbad : okAt l i = false := by
                cases hk : okAt l i with
                | false => rfl
                | true =>
                  obtain ⟨_, _, h5⟩ := (okAt_iff l i).mp hk
                  rcases h5 with h5 | h5 | h5
                  · exact absurd h5 h0
                  · exact absurd h5 hlast
                  · rw [hle] at h5
                    cases h5
              rw [valid_bad a b l i (by omega) hbad]
              refine Ev.step (f := fun _ => some false) (fun k => ?_) (Ev.now _)
              unfold less at hle
              simp only [dasdref20_IsNode.j2, Bool.false_eq_true, if_false]
              rw [if_pos (by omega), if_neg (by simpa using hlast), e1, if_pos (by omega), if_pos (by omega), hy, if_neg (by rw [hle]; simp)]
    have hnot : ∀ {p : Prop}, ¬ ((1 ≤ (en l i).f1 ∧ (en l i).f1 ≤ 16777216 ∧ (en l i).f0.size ≤ 32) ∧ ((en l i).f0.size = 0 ↔ i + 1 = l.length)) → okAt l i = false := by
      intro _ h
      cases hk : okAt l i with
      | false => rfl
      | true =>
        obtain ⟨h3, h4, _⟩ := (okAt_iff l i).mp hk
        exact absurd ⟨h3, h4⟩ h
    by_cases c1 : (en l i).f1 < 1
    · refine Ev.step (fun k => ?_) (test true (fun _ => hnot (p := True) (fun h => by omega)) (fun h => by cases h))
      simp only [dasdref20_IsNode.l0]
      rw [if_pos (by omega), if_pos (by omega), hx, if_pos c1, ew, elast]
    by_cases c2 : (en l i).f1 > 16777216
    · refine Ev.step (fun k => ?_) (test true (fun _ => hnot (p := True) (fun h => by omega)) (fun h => by cases h))
      simp only [dasdref20_IsNode.l0]
      rw [if_pos (by omega), if_pos (by omega), hx, if_neg c1, if_pos c2, ew, elast]
    by_cases c3 : ((en l i).f0.size : Int) > 32
    · refine Ev.step (fun k => ?_) (test true (fun _ => hnot (p := True) (fun h => by omega)) (fun h => by cases h))
      simp only [dasdref20_IsNode.l0]
      rw [if_pos (by omega), if_pos (by omega), hx, if_neg c1, if_neg c2, if_pos c3, ew, elast]
    have hE : (((en l i).f0.toList == ([] : List UInt8)) != decide (i + 1 = l.length)) = false ↔ ((en l i).f0.size = 0 ↔ i + 1 = l.length) := by
      rw [bne_eq_false_iff_eq, Bool.eq_iff_iff, beq_iff_eq, empty_iff, decide_eq_true_eq]
    refine Ev.step (fun k => ?_) (test (((en l i).f0.toList == ([] : List UInt8)) != decide (i + 1 = l.length)) (fun h => hnot (p := True) (fun hh => by
      have := hE.mpr hh.2
      rw [h] at this
      cases this)) (fun h => ⟨⟨by omega, by omega, by omega⟩, hE.mp h⟩))
    simp only [dasdref20_IsNode.l0]
    rw [if_pos (by omega), if_pos (by omega), hx, if_neg c1, if_neg c2, if_neg c3, ew, elast]
theorem isnode_ev (a b : Int) (l : List S32) (hl : l.length ≤ 9223372036854775807) : Ev (fun k => dasdref20_IsNode.f k a b l) (valid a b l) := by
  have bad : okHead a b l = false → Ev (fun k => dasdref20_IsNode.j0 k true a b l) (valid a b l) := by
    intro h
    have hv : valid a b l = false := by unfold valid; rw [h]; rfl
    rw [hv]
    refine Ev.step (f := fun _ => some false) (fun k => ?_) (Ev.now _)
    simp only [dasdref20_IsNode.j0, if_true]
  have no : okHead a b l = false ↔ ¬ (1 ≤ l.length ∧ l.length ≤ 120 ∧ 0 ≤ a ∧ a ≤ 6 ∧ 0 ≤ b ∧ b ≤ 16777216) := by
    unfold okHead
    rw [decide_eq_false_iff_not]
  unfold dasdref20_IsNode.f
  by_cases c1 : (l.length : Int) < 1
  · exact Ev.congr (fun k => if_pos c1) (bad (no.mpr (by omega)))
  refine Ev.congr (fun k => if_neg c1) ?_
  by_cases c2 : (l.length : Int) > 120
  · exact Ev.congr (fun k => if_pos c2) (bad (no.mpr (by omega)))
  refine Ev.congr (fun k => if_neg c2) ?_
  by_cases c3 : a < 0
  · exact Ev.congr (fun k => if_pos c3) (bad (no.mpr (by omega)))
  refine Ev.congr (fun k => if_neg c3) ?_
  by_cases c4 : a > 6
  · exact Ev.congr (fun k => if_pos c4) (bad (no.mpr (by omega)))
  refine Ev.congr (fun k => if_neg c4) ?_
  by_cases c5 : b < 0
  · exact Ev.congr (fun k => if_pos c5) (bad (no.mpr (by omega)))
  refine Ev.congr (fun k => if_neg c5) ?_
  by_cases c6 : b > 16777216
  · rw [decide_eq_true c6]
    exact bad (no.mpr (by omega))
  rw [decide_eq_false c6]
  have h := isnode_l0 a b l (decide_eq_true (by omega)) l.length 0 (by omega) (fun j hj => absurd hj (by omega))
  refine Ev.step (fun k => ?_) h
  simp only [dasdref20_IsNode.j0, Bool.false_eq_true, if_false]
  rfl
end Go.Proofs.Ytffkgdaookidbaa.Base
