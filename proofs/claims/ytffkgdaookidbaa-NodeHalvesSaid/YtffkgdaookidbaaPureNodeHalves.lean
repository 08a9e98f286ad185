/-
The plain law NodeHalves: a key is led in the half of a split node on its side of the bound as in the whole node; both halves are valid, and differ by at most one entry.
-/
import Derived.Test.YtffkgdaookidbaaXNx32
import Derived.Test.YtffkgdaookidbaaAwake
import Derived.Test.YtffkgdaookidbaaFindL
set_option linter.unusedVariables false
namespace Go.Proofs.Ytffkgdaookidbaa.Pure
open Go.RowKit Go.Proofs.Ytffkgdaookidbaa.XNx Go.Proofs.Ytffkgdaookidbaa.Base Go.Proofs.YtffkgdaookidbaaW.PrintWords Go.Proofs.YtffkgdaookidbaaW.PrintLast Go.Proofs.YtffkgdaookidbaaW.PrintMore

theorem page_ev (a b : Int) (l : List S32) (key : ByteArray) (i : Nat) (h : fnd l key = (i : Int)) (hi : i < l.length) : dasdlaw20_page.f a b l key = some ((en l i).f1) := by
  unfold dasdlaw20_page.f
  rw [page_f' a b l key i h hi, Option.bind_some, if_neg (by omega), if_neg (by omega), if_pos (by omega), if_pos (by omega)]
  rfl
section
variable {a b : Int} {l : List S32} {k : Nat}
abbrev cutl (l : List S32) (k : Nat) : List S32 := l.set (k - 1) ⟨⟨#[]⟩, (en l (k - 1)).f1⟩
theorem en_left (hk : 1 ≤ k) (hl : k ≤ l.length) (i : Nat) (hi : i + 1 < k) : en ((cutl l k).take k) i = en l i := by
  apply en_eq
  rw [List.getElem?_take, if_pos (by omega), List.getElem?_set, if_neg (by omega)]
theorem en_mid (hk : 1 ≤ k) (hl : k ≤ l.length) : en ((cutl l k).take k) (k - 1) = ⟨⟨#[]⟩, (en l (k - 1)).f1⟩ := by
  rw [en_get _ _ (by rw [List.length_take, List.length_set]; omega), List.getElem_take, List.getElem_set, if_pos rfl]
theorem en_right (hk : 1 ≤ k) (hl : k ≤ l.length) (i : Nat) : en ((cutl l k).drop k) i = en l (k + i) := by
  apply en_eq
  rw [List.getElem?_drop, List.getElem?_set, if_neg (by omega)]
theorem left_len (hk : 1 ≤ k) (hl : k ≤ l.length) : ((cutl l k).take k).length = k := by rw [List.length_take, List.length_set]; omega
theorem right_len (hk : 1 ≤ k) (hl : k ≤ l.length) : ((cutl l k).drop k).length = l.length - k := by rw [List.length_drop, List.length_set]
theorem left_good (g : Good a b l) (hk : 1 ≤ k) (hl : k < l.length) : Good a 0 ((cutl l k).take k) := by
  have hlen := left_len hk (Nat.le_of_lt hl)
  have := g.n2
  refine ⟨by omega, by omega, g.a1, g.a2, by omega, by omega, fun i hi => ?_⟩
  rw [hlen] at hi ⊢
  by_cases h : i + 1 < k
  · obtain ⟨h1, h2, h3⟩ := g.ok i (by omega)
    rw [en_left hk (Nat.le_of_lt hl) i h]
    refine ⟨h1, by omega, ?_⟩
    by_cases h0 : i = 0
    · exact .inl h0
    · rw [en_left hk (Nat.le_of_lt hl) (i - 1) (by omega)]
      rcases h3 with h3 | h3 | h3
      · exact .inl h3
      · omega
      · exact .inr (.inr h3)
  · have e : i = k - 1 := by omega
    subst e
    obtain ⟨h1, h2, h3⟩ := g.ok (k - 1) (by omega)
    rw [en_mid hk (Nat.le_of_lt hl)]
    refine ⟨⟨h1.1, h1.2.1, Nat.zero_le _⟩, ⟨fun _ => by omega, fun _ => rfl⟩, .inr (.inl (by omega))⟩
theorem right_good (g : Good a b l) (hk : 1 ≤ k) (hl : k < l.length) : Good a b ((cutl l k).drop k) := by
  have hlen := right_len hk (Nat.le_of_lt hl)
  have := g.n2
  refine ⟨by omega, by omega, g.a1, g.a2, g.b1, g.b2, fun i hi => ?_⟩
  rw [hlen] at hi ⊢
  rw [en_right hk (Nat.le_of_lt hl), en_right hk (Nat.le_of_lt hl)]
  obtain ⟨h1, h2, h3⟩ := g.ok (k + i) (by omega)
  refine ⟨h1, by omega, ?_⟩
  by_cases h0 : i = 0
  · exact .inl h0
  · rcases h3 with h3 | h3 | h3
    · omega
    · exact .inr (.inl (by omega))
    · rw [show k + i - 1 = k + (i - 1) by omega] at h3
      exact .inr (.inr h3)
theorem led_left (g : Good a b l) (hk : 1 ≤ k) (hl : k < l.length) (key : ByteArray) (hb : less key (en l (k - 1)).f0 = true) :
    ∃ i i' : Nat, fnd l key = (i : Int) ∧ i < l.length ∧ fnd ((cutl l k).take k) key = (i' : Int) ∧ i' < ((cutl l k).take k).length ∧ (en ((cutl l k).take k) i').f1 = (en l i).f1 := by
  have hlen := left_len hk (Nat.le_of_lt hl)
  obtain ⟨i, hf, hi, h1, h2⟩ := fnd_law (key := key) g.n1
  have hik : i ≤ k - 1 := by
    by_cases h : k - 1 < i
    · rw [h2 _ h] at hb
      cases hb
    · omega
  refine ⟨i, i, hf, hi, fnd_unique (by omega) (fun h => ?_) (fun j hj => ?_), by omega, ?_⟩
  · rw [hlen] at h
    rw [en_left hk (Nat.le_of_lt hl) i h]
    exact h1 (by omega)
  · rw [en_left hk (Nat.le_of_lt hl) j (by omega)]
    exact h2 j hj
  · by_cases h : i + 1 < k
    · rw [en_left hk (Nat.le_of_lt hl) i h]
    · rw [show i = k - 1 by omega, en_mid hk (Nat.le_of_lt hl)]
theorem led_right (g : Good a b l) (hk : 1 ≤ k) (hl : k < l.length) (key : ByteArray) (hb : less key (en l (k - 1)).f0 = false) :
    ∃ i i' : Nat, fnd l key = (i : Int) ∧ i < l.length ∧ fnd ((cutl l k).drop k) key = (i' : Int) ∧ i' < ((cutl l k).drop k).length ∧ (en ((cutl l k).drop k) i').f1 = (en l i).f1 := by
  have hlen := right_len hk (Nat.le_of_lt hl)
  obtain ⟨i, hf, hi, h1, h2⟩ := fnd_law (key := key) g.n1
  have hik : k ≤ i := by
    by_cases h : i + 1 < k
    · have t := g.incr i (k - 1 - i - 1) (by omega)
      rw [show i + (k - 1 - i - 1) + 1 = k - 1 by omega] at t
      rw [less_trans (h1 (by omega)) t] at hb
      cases hb
    · by_cases h' : i + 1 = k
      · have := h1 (by omega)
        rw [show i = k - 1 by omega, hb] at this
        cases this
      · omega
  refine ⟨i, i - k, hf, hi, fnd_unique (by omega) (fun h => ?_) (fun j hj => ?_), by omega, ?_⟩
  · rw [hlen] at h
    rw [en_right hk (Nat.le_of_lt hl), show k + (i - k) = i by omega]
    exact h1 (by omega)
  · rw [en_right hk (Nat.le_of_lt hl)]
    exact h2 _ (by omega)
  · rw [en_right hk (Nat.le_of_lt hl), show k + (i - k) = i by omega]
end
theorem halves_j0 (a b : Int) (l : List S32) (hl : l.length ≤ 9223372036854775807) (key : ByteArray) (hv : valid a b l = true) (x : Bool) : Ev (fun k => dasdlaw20_NodeHalves.j0 k key x a b l) true := by
  cases x with
  | true => exact Ev.step (f := fun _ => some true) (fun k => by rw [dasdlaw20_NodeHalves.j0, if_pos rfl]) (Ev.now _)
  | false =>
    have g := (good_iff a b l).mp hv
    refine Ev.step (fun k => by rw [dasdlaw20_NodeHalves.j0, if_neg (show ¬ false = true by simp)]) ?_
    by_cases h1 : l.length = 1
    · have hs : node_Split.f a b l = some (0, 0, [], 0, 0, [], ⟨#[]⟩, 9) := by
        unfold node_Split.f
        rw [if_neg (by rw [hv]; simp), if_pos h1]
      refine Ev.congr (f := fun _ => some true) (fun k => ?_) (Ev.now _)
      rw [hs, Option.bind_some, if_pos (by omega)]
      rfl
    · obtain ⟨k, hk⟩ : ∃ k, k = (l.length + 1) / 2 := ⟨_, rfl⟩
      have hn := g.n1
      have hn2 := g.n2
      have k1 : 1 ≤ k := by omega
      have k2 : k < l.length := by omega
      have hs : node_Split.f a b l = some (a, 0, (cutl l k).take k, a, b, (cutl l k).drop k, (en l (k - 1)).f0, 0) := by
        unfold node_Split.f
        rw [if_neg (by rw [hv]; simp), if_neg h1, ← hk]
      have lg := left_good g k1 k2
      have rg := right_good g k1 k2
      have ll := left_len k1 (Nat.le_of_lt k2)
      have rl := right_len k1 (Nat.le_of_lt k2)
      have hb : (en l (k - 1)).f0.toList ≠ ([] : List UInt8) := by
        rw [ne_eq, empty_iff]
        have := (g.ok (k - 1) (by omega)).2.1
        omega
      have l1 := isnode_ev a 0 ((cutl l k).take k) (by omega)
      have l2 := isnode_ev a b ((cutl l k).drop k) (by omega)
      rw [(good_iff _ _ _).mpr lg] at l1
      rw [(good_iff _ _ _).mpr rg] at l2
      refine Ev.congr (fun k' => by rw [hs, Option.bind_some, if_neg (show ¬ (l.length : Int) = 1 by omega), if_pos rfl]) ?_
      refine Ev.bind l1 ?_
      refine Ev.congr (fun k' => if_pos rfl) ?_
      refine Ev.bind l2 ?_
      refine Ev.congr (fun k' => if_pos rfl) ?_
      dsimp only
      rw [ll, rl, w64 (by omega) (by omega), w64 (by omega) (by omega)]
      refine Ev.congr (fun k' => (if_pos (by omega)).trans ((if_neg (by omega)).trans ((if_neg (by omega)).trans (if_neg hb)))) ?_
      rw [bne_self_eq_false]
      refine Ev.step (fun k' => by rw [dasdlaw20_NodeHalves.j1, if_neg (show ¬ false = true by simp)]) ?_
      cases hc : less key (en l (k - 1)).f0 with
      | true =>
        obtain ⟨i, i', p1, p2, p3, p4, p5⟩ := led_left g k1 k2 key hc
        refine Ev.congr (fun k' => if_pos hc) ?_
        refine Ev.congr (f := fun _ => some true) (fun k' => ?_) (Ev.now _)
        rw [page_ev _ _ _ key i' p3 p4, page_ev _ _ _ key i p1 p2, Option.bind_some, Option.bind_some, p5, beq_self_eq_true]
      | false =>
        obtain ⟨i, i', p1, p2, p3, p4, p5⟩ := led_right g k1 k2 key hc
        refine Ev.congr (fun k' => if_neg (by unfold less at hc; rw [hc]; simp)) ?_
        refine Ev.congr (f := fun _ => some true) (fun k' => ?_) (Ev.now _)
        rw [page_ev _ _ _ key i' p3 p4, page_ev _ _ _ key i p1 p2, Option.bind_some, Option.bind_some, p5, beq_self_eq_true]
theorem NodeHalves (f0 f1 : Int) (l : List S32) (key : ByteArray) (w0 : (Lit.int .i64 f0).wf = true) (w1 : (Lit.int .i64 f1).wf = true) (hl : l.length ≤ 9223372036854775807) (hk : key.size ≤ 140737488351232) :
    ∃ k, dasdlaw20_NodeHalves.f k f0 f1 l key = some true := by
  apply Ev.rounds
  unfold dasdlaw20_NodeHalves.f
  refine Ev.bind awake_ev ?_
  refine Ev.congr (fun k => if_pos rfl) ?_
  refine Ev.bind (isnode_ev f0 f1 l hl) ?_
  cases hv : valid f0 f1 l with
  | false => exact Ev.congr (fun k => if_neg (by simp)) (Ev.step (f := fun _ => some true) (fun k => by rw [dasdlaw20_NodeHalves.j0, if_pos rfl]) (Ev.now _))
  | true => exact Ev.congr (fun k => if_pos rfl) (halves_j0 f0 f1 l hl key hv _)
end Go.Proofs.Ytffkgdaookidbaa.Pure
