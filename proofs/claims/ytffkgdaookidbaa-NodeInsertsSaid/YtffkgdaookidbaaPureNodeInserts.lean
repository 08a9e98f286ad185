/-
The plain law NodeInserts: after Insert, the keys of the old entry from the new bound on are led to the new page, and all others as before.
-/
import Derived.Test.YtffkgdaookidbaaXNx16
import Derived.Test.YtffkgdaookidbaaAwake
import Derived.Test.YtffkgdaookidbaaFindL
set_option linter.unusedVariables false
namespace Go.Proofs.Ytffkgdaookidbaa.Pure
open Go.RowKit Go.Proofs.Ytffkgdaookidbaa.XNx Go.Proofs.Ytffkgdaookidbaa.Base Go.Proofs.YtffkgdaookidbaaW.PrintWords Go.Proofs.YtffkgdaookidbaaW.PrintLast Go.Proofs.YtffkgdaookidbaaW.PrintMore

theorem page_ev (a b : Int) (l : List S32) (key : ByteArray) (i : Nat) (h : fnd l key = (i : Int)) (hi : i < l.length) : dasdlaw20_page.f a b l key = some ((en l i).f1) := by
  unfold dasdlaw20_page.f
  rw [page_f' a b l key i h hi, Option.bind_some, if_neg (by omega), if_neg (by omega), if_pos (by omega), if_pos (by omega)]
  rfl
/-! ### the node that Insert makes -/
section
variable {a b : Int} {l : List S32} {i : Nat} {x y : S32}
abbrev put (l : List S32) (i : Nat) (x y : S32) : List S32 := (l.take i ++ x :: l.drop i).set (i + 1) y
theorem put_len (hi : i < l.length) : (put l i x y).length = l.length + 1 := by
  rw [List.length_set, List.length_append, List.length_take, List.length_cons, List.length_drop]
  omega
theorem take_len (hi : i < l.length) : (l.take i).length = i := by rw [List.length_take]; omega
theorem put_lo (hi : i < l.length) (j : Nat) (hj : j < i) : en (put l i x y) j = en l j := by
  have hl := take_len hi
  apply en_eq
  rw [List.getElem?_set, if_neg (by omega), List.getElem?_append_left (by omega), List.getElem?_take, if_pos hj]
theorem put_at (hi : i < l.length) : en (put l i x y) i = x := by
  have hl := take_len hi
  have : (put l i x y)[i]? = some x := by
    rw [List.getElem?_set, if_neg (by omega), List.getElem?_append_right (by omega), hl, Nat.sub_self]
    rfl
  rw [en_get _ _ (by rw [put_len hi]; omega)]
  exact (List.getElem?_eq_some_iff.mp this).2
theorem put_next (hi : i < l.length) : en (put l i x y) (i + 1) = y := by
  have hl := take_len hi
  have : (put l i x y)[i + 1]? = some y := by
    rw [List.getElem?_set, if_pos rfl, if_pos (by rw [List.length_append, hl, List.length_cons, List.length_drop]; omega)]
  rw [en_get _ _ (by rw [put_len hi]; omega)]
  exact (List.getElem?_eq_some_iff.mp this).2
theorem put_hi (hi : i < l.length) (m : Nat) (hm : i < m) : en (put l i x y) (m + 1) = en l m := by
  have hl := take_len hi
  apply en_eq
  rw [List.getElem?_set, if_neg (by omega), List.getElem?_append_right (by omega), hl, show m + 1 - i = (m - i) + 1 by omega, List.getElem?_cons_succ, List.getElem?_drop]
  congr 1
  omega
theorem put_key (hi : i < l.length) (hy : y.f0 = (en l i).f0) (m : Nat) (hm : i ≤ m) : (en (put l i x y) (m + 1)).f0 = (en l m).f0 := by
  by_cases h : m = i
  · rw [h, put_next hi, hy]
  · rw [put_hi hi m (by omega)]
theorem put_good (g : Good a b l) (hi : i < l.length) (hn : l.length ≠ 120) (hx : 1 ≤ x.f1 ∧ x.f1 ≤ 16777216) (hxs : x.f0.size ≤ 32) (hx0 : x.f0.size ≠ 0) (hxp : i ≠ 0 → less (en l (i - 1)).f0 x.f0 = true) (hy : y.f0 = (en l i).f0) (hyp : 1 ≤ y.f1 ∧ y.f1 ≤ 16777216) (hxy : i + 1 < l.length → less x.f0 (en l i).f0 = true) :
    Good a b (put l i x y) := by
  have hlen := put_len (x := x) (y := y) hi
  have := g.n2
  refine ⟨by omega, by omega, g.a1, g.a2, g.b1, g.b2, fun j hj => ?_⟩
  rw [hlen] at hj ⊢
  by_cases h1 : j < i
  · obtain ⟨k1, k2, k3⟩ := g.ok j (by omega)
    rw [put_lo hi j h1]
    refine ⟨k1, by omega, ?_⟩
    by_cases h0 : j = 0
    · exact .inl h0
    · rw [put_lo hi (j - 1) (by omega)]
      rcases k3 with k3 | k3 | k3
      · exact .inl k3
      · omega
      · exact .inr (.inr k3)
  · by_cases h2 : j = i
    · subst h2
      rw [put_at hi]
      refine ⟨⟨hx.1, hx.2, hxs⟩, ⟨fun h => absurd h hx0, fun h => by omega⟩, ?_⟩
      by_cases h0 : j = 0
      · exact .inl h0
      · rw [put_lo hi (j - 1) (by omega)]
        exact .inr (.inr (hxp h0))
    · obtain ⟨m, rfl⟩ : ∃ m, j = m + 1 := ⟨j - 1, by omega⟩
      have hm : i ≤ m := by omega
      obtain ⟨k1, k2, k3⟩ := g.ok m (by omega)
      rw [put_key hi hy m hm]
      have hp : 1 ≤ (en (put l i x y) (m + 1)).f1 ∧ (en (put l i x y) (m + 1)).f1 ≤ 16777216 := by
        by_cases h : m = i
        · rw [h, put_next hi]
          exact hyp
        · rw [put_hi hi m (by omega)]
          exact ⟨k1.1, k1.2.1⟩
      refine ⟨⟨hp.1, hp.2, k1.2.2⟩, by omega, ?_⟩
      by_cases hlast : m + 1 = l.length
      · exact .inr (.inl (by omega))
      · refine .inr (.inr ?_)
        rw [Nat.add_sub_cancel]
        by_cases h : m = i
        · rw [h, put_at hi]
          exact hxy (by omega)
        · rw [show m = (m - 1) + 1 by omega, put_key hi hy (m - 1) (by omega), show m - 1 + 1 = m by omega]
          rcases k3 with k3 | k3 | k3
          · omega
          · omega
          · exact k3
/-- A key that was not led to the old entry, or lies below the new bound, is led as before; the others to the new page. -/
theorem put_led (g : Good a b l) (hi : i < l.length) (hy : y.f0 = (en l i).f0) (hx1 : x.f1 = (en l i).f1) (hxy : i + 1 < l.length → less x.f0 (en l i).f0 = true) (key : ByteArray) (p : Nat) (hf : fnd l key = (p : Int)) (hp : p < l.length)
    (h1 : p + 1 < l.length → less key (en l p).f0 = true) (h2 : ∀ j, j < p → less key (en l j).f0 = false) :
    ∃ q : Nat, fnd (put l i x y) key = (q : Int) ∧ q < (put l i x y).length ∧ (en (put l i x y) q).f1 = if p = i ∧ less key x.f0 = false then y.f1 else (en l p).f1 := by
  have hlen := put_len (x := x) (y := y) hi
  by_cases hpi : p = i
  · subst hpi
    cases hk : less key x.f0 with
    | true =>
      refine ⟨p, fnd_unique (by omega) (fun _ => by rw [put_at hi]; exact hk) (fun j hj => by rw [put_lo hi j hj]; exact h2 j hj), by omega, ?_⟩
      rw [put_at hi, if_neg (by simp), hx1]
    | false =>
      refine ⟨p + 1, fnd_unique (by omega) (fun h => by rw [put_next hi, hy]; exact h1 (by omega)) (fun j hj => ?_), by omega, ?_⟩
      · by_cases hj' : j < p
        · rw [put_lo hi j hj']
          exact h2 j hj'
        · rw [show j = p by omega, put_at hi]
          exact hk
      · rw [put_next hi, if_pos ⟨rfl, rfl⟩]
  · rw [if_neg (fun h => hpi h.1)]
    by_cases hlt : p < i
    · refine ⟨p, fnd_unique (by omega) (fun _ => by rw [put_lo hi p hlt]; exact h1 (by omega)) (fun j hj => by rw [put_lo hi j (by omega)]; exact h2 j hj), by omega, ?_⟩
      rw [put_lo hi p hlt]
    · refine ⟨p + 1, fnd_unique (by omega) (fun h => by rw [put_key hi hy p (by omega)]; exact h1 (by omega)) (fun j hj => ?_), by omega, ?_⟩
      · by_cases hj1 : j < i
        · rw [put_lo hi j hj1]
          exact h2 j (by omega)
        · by_cases hj2 : j = i
          · rw [hj2, put_at hi]
            cases hk : less key x.f0 with
            | false => rfl
            | true =>
              have := less_trans hk (hxy (by omega))
              rw [h2 i (by omega)] at this
              cases this
          · rw [show j = (j - 1) + 1 by omega, put_key hi hy (j - 1) (by omega)]
            exact h2 (j - 1) (by omega)
      · rw [put_hi hi p (by omega)]
end
theorem inserts_j0 (a b : Int) (l : List S32) (hl : l.length ≤ 9223372036854775807) (below key : ByteArray) (at_ : Int) (hv : valid a b l = true) (x : Bool) : Ev (fun k => dasdlaw20_NodeInserts.j0 k below key at_ x a b l) true := by
  cases x with
  | true => exact Ev.step (f := fun _ => some true) (fun k => by rw [dasdlaw20_NodeInserts.j0, if_pos rfl]) (Ev.now _)
  | false =>
    have g := (good_iff a b l).mp hv
    have hn := g.n1
    have hn2 := g.n2
    obtain ⟨i, hf, hi, h1, h2⟩ := fnd_law (key := below) g.n1
    obtain ⟨p, pf, hp, p1, p2⟩ := fnd_law (key := key) g.n1
    have hge : ¬ ((i : Int) ≥ (l.length : Int)) := by omega
    have hhead : ∀ r : Int × Int × List S32 × Int, node_Insert.f a b l (i : Int) below at_ = some r → Ev (fun k => dasdlaw20_NodeInserts.j1 k below key at_ (i : Int) r.2.2.2 false a b l r.1 r.2.1 r.2.2.1) true → Ev (fun k => dasdlaw20_NodeInserts.j0 k below key at_ false a b l) true := by
      intro r hr e
      refine Ev.step (fun k => ?_) e
      rw [dasdlaw20_NodeInserts.j0, if_neg (show ¬ false = true by simp), page_f' a b l below i hf hi, Option.bind_some, hr, Option.bind_some, if_neg (by omega), decide_eq_false hge]
    have no : ∀ c : Int, c ≠ 0 → node_Insert.f a b l (i : Int) below at_ = some (0, 0, [], c) → (below.toList = ([] : List UInt8) ∨ (below.size : Int) > 32 ∨ at_ < 1 ∨ at_ > 16777216 ∨ l.length = 120 ∨ (i ≠ 0 ∧ (en l (i - 1)).f0 = below)) → Ev (fun k => dasdlaw20_NodeInserts.j0 k below key at_ false a b l) true := by
      intro c hc hr hh
      refine hhead _ hr (Ev.step (f := fun _ => some true) (fun k => ?_) (Ev.now _))
      rw [dasdlaw20_NodeInserts.j1, if_neg (show ¬ false = true by simp), if_neg hc, if_pos (show ((([] : List S32).length : Nat) : Int) = 0 from rfl)]
      by_cases q1 : below.toList = ([] : List UInt8)
      · rw [if_pos q1]
      rw [if_neg q1]
      by_cases q2 : (below.size : Int) > 32
      · rw [if_pos q2]
      rw [if_neg q2]
      by_cases q3 : at_ < 1
      · rw [if_pos q3]
      rw [if_neg q3]
      by_cases q4 : at_ > 16777216
      · rw [if_pos q4]
      rw [if_neg q4]
      by_cases q5 : (l.length : Int) = 120
      · rw [if_pos q5]
      rw [if_neg q5]
      rcases hh with hh | hh | hh | hh | hh | ⟨hh, he⟩
      · exact absurd hh q1
      · exact absurd hh q2
      · exact absurd hh q3
      · exact absurd hh q4
      · omega
      · rw [if_pos (by omega), w64 (by omega) (by omega), if_pos (by omega), if_pos (by omega), show (i : Int) - 1 = ((i - 1 : Nat) : Int) by omega]
        show some ((en l (i - 1)).f0.toList == below.toList) = some true
        rw [he, beq_self_eq_true]
    by_cases c1 : ¬ (1 ≤ at_ ∧ at_ ≤ 16777216)
    · refine no 1 (by decide) ?_ (by omega)
      unfold node_Insert.f
      rw [if_pos (.inr (.inl c1))]
    have c1' : 1 ≤ at_ ∧ at_ ≤ 16777216 := Decidable.byContradiction c1
    have hin : ¬ (valid a b l = false ∨ ¬ (1 ≤ at_ ∧ at_ ≤ 16777216) ∨ (i : Int) < 0 ∨ (l.length : Int) ≤ (i : Int)) := by
      rintro (h | h | h | h)
      · rw [hv] at h
        cases h
      · exact c1 h
      · omega
      · omega
    by_cases c2 : wrong l i below
    · refine no 2 (by decide) ?_ ?_
      · unfold node_Insert.f
        rw [if_neg hin, Int.toNat_natCast, if_pos c2]
      · rcases c2 with c2 | c2 | c2 | c2
        · exact .inl (List.isEmpty_iff.mp c2)
        · exact .inr (.inl (by omega))
        · rcases less_total (en l (i - 1)).f0 below with t | t | t
          · rw [c2.2] at t
            cases t
          · exact .inr (.inr (.inr (.inr (.inr ⟨by omega, t⟩))))
          · rw [h2 (i - 1) (by omega)] at t
            cases t
        · have ho := (g.ok i hi).2.1
          have : (en l i).f0.size ≠ 0 := fun h => by
            have := (empty_iff _).mpr h
            rw [this] at c2
            cases c2.1
          have := h1 (by omega)
          rw [c2.2] at this
          cases this
    by_cases c3 : l.length = 120
    · refine no 8 (by decide) ?_ (.inr (.inr (.inr (.inr (.inl c3)))))
      unfold node_Insert.f
      rw [if_neg hin, Int.toNat_natCast, if_neg c2, if_pos c3]
    have hr : node_Insert.f a b l (i : Int) below at_ = some (a, b, put l i ⟨below, (en l i).f1⟩ ⟨(en l i).f0, at_⟩, 0) := by
      unfold node_Insert.f
      rw [if_neg hin, Int.toNat_natCast, if_neg c2, if_neg c3]
    have hb0 : below.size ≠ 0 := fun h => c2 (.inl (List.isEmpty_iff.mpr ((empty_iff _).mpr h)))
    have hb32 : below.size ≤ 32 := Decidable.byContradiction fun h => c2 (.inr (.inl (by omega)))
    have hprev : i ≠ 0 → less (en l (i - 1)).f0 below = true := fun h0 => by
      cases hc : less (en l (i - 1)).f0 below with
      | true => rfl
      | false => exact absurd (.inr (.inr (.inl ⟨by omega, hc⟩))) c2
    have hold := (g.ok i hi).1
    have lg : Good a b (put l i ⟨below, (en l i).f1⟩ ⟨(en l i).f0, at_⟩) := put_good g hi c3 ⟨hold.1, hold.2.1⟩ hb32 hb0 hprev rfl c1' h1
    obtain ⟨q, qf, hq, qe⟩ := put_led (x := ⟨below, (en l i).f1⟩) (y := ⟨(en l i).f0, at_⟩) g hi rfl rfl h1 key p pf hp p1 p2
    have hlen := put_len (x := ⟨below, (en l i).f1⟩) (y := ⟨(en l i).f0, at_⟩) hi
    have l1 := isnode_ev a b (put l i ⟨below, (en l i).f1⟩ ⟨(en l i).f0, at_⟩) (by omega)
    rw [(good_iff _ _ _).mpr lg] at l1
    have hpage := page_ev a b _ key q qf hq
    refine hhead _ hr ?_
    refine Ev.step (fun k => by rw [dasdlaw20_NodeInserts.j1, if_neg (show ¬ false = true by simp), if_pos rfl, page_ev a b l key p pf hp, Option.bind_some, page_f' a b l key p pf hp, Option.bind_some]) ?_
    have fin : ∀ t : Bool, (t = true ↔ (p = i ∧ less key below = false)) → Ev (fun k => dasdlaw20_NodeInserts.j2 k key at_ (en l p).f1 t a b l a b (put l i ⟨below, (en l i).f1⟩ ⟨(en l i).f0, at_⟩)) true := by
      intro t ht
      cases t with
      | true =>
        refine Ev.step (fun k => by rw [dasdlaw20_NodeInserts.j2, if_pos rfl]) ?_
        refine Ev.bind l1 ?_
        refine Ev.congr (f := fun _ => some true) (fun k => ?_) (Ev.now _)
        rw [if_pos rfl, hlen, w64 (by omega) (by omega), if_pos (by omega), hpage, Option.bind_some, qe, if_pos (ht.mp rfl), beq_self_eq_true]
      | false =>
        refine Ev.step (fun k => by rw [dasdlaw20_NodeInserts.j2, if_neg (show ¬ false = true by simp)]) ?_
        refine Ev.bind l1 ?_
        refine Ev.congr (f := fun _ => some true) (fun k => ?_) (Ev.now _)
        rw [if_pos rfl, hlen, w64 (by omega) (by omega), if_pos (by omega), hpage, Option.bind_some, qe, if_neg (fun h => by have := ht.mpr h; cases this), beq_self_eq_true]
    by_cases hpi : p = i
    · refine Ev.congr (fun k => if_pos (by omega)) (fin _ ?_)
      show (!(less key below)) = true ↔ _
      rw [Bool.not_eq_true']
      exact ⟨fun h => ⟨hpi, h⟩, fun h => h.2⟩
    · exact Ev.congr (fun k => if_neg (by omega)) (fin _ ⟨fun h => (by cases h), fun h => absurd h.1 hpi⟩)
theorem NodeInserts (f0 f1 : Int) (l : List S32) (below key : ByteArray) (at_ : Int) (w0 : (Lit.int .i64 f0).wf = true) (w1 : (Lit.int .i64 f1).wf = true) (hl : l.length ≤ 9223372036854775807) (hb : below.size ≤ 140737488351232) (hk : key.size ≤ 140737488351232) (w2 : (Lit.int .i64 at_).wf = true) :
    ∃ k, dasdlaw20_NodeInserts.f k f0 f1 l below key at_ = some true := by
  apply Ev.rounds
  unfold dasdlaw20_NodeInserts.f
  refine Ev.bind awake_ev ?_
  refine Ev.congr (fun k => if_pos rfl) ?_
  refine Ev.bind (isnode_ev f0 f1 l hl) ?_
  cases hv : valid f0 f1 l with
  | false => exact Ev.congr (fun k => if_neg (by simp)) (Ev.step (f := fun _ => some true) (fun k => by rw [dasdlaw20_NodeInserts.j0, if_pos rfl]) (Ev.now _))
  | true =>
    refine Ev.congr (fun k => if_pos rfl) ?_
    by_cases hs : (key.size : Int) > 100
    · exact Ev.congr (fun k => if_pos hs) (inserts_j0 f0 f1 l hl below key at_ hv true)
    · exact Ev.congr (fun k => if_neg hs) (inserts_j0 f0 f1 l hl below key at_ hv _)
end Go.Proofs.Ytffkgdaookidbaa.Pure
