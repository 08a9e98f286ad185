/-
Plain laws on the order of keys: it is strict and total. Plain laws on Find: the least entry whose bound is greater, else the last; on the entries of a valid node.
-/
import Derived.Test.YtffkgdaookidbaaExtFind
import Derived.Test.YtffkgdaookidbaaBase
set_option linter.unusedVariables false
namespace Go.Proofs.Ytffkgdaookidbaa.Base
open Go.RowKit Go.Proofs.Ytffkgdaookidbaa.XNx Go.Proofs.YtffkgdaookidbaaW.PrintWords Go.Proofs.YtffkgdaookidbaaW.PrintLast Go.Proofs.YtffkgdaookidbaaW.PrintMore

theorem bl_irrefl : ∀ a : List UInt8, Op.bytesLess a a = false
  | [] => rfl
  | a :: x => by
    have h : ¬ a < a := UInt8.lt_irrefl a
    simp [Op.bytesLess, h, bl_irrefl x]
theorem bl_trans : ∀ a b c : List UInt8, Op.bytesLess a b = true → Op.bytesLess b c = true → Op.bytesLess a c = true
  | _, [], _, h, _ => by simp [Op.bytesLess] at h
  | _, _ :: _, [], _, h => by simp [Op.bytesLess] at h
  | [], _ :: _, _ :: _, _, _ => rfl
  | a :: x, b :: y, c :: z, h1, h2 => by
    simp only [Op.bytesLess, Bool.or_eq_true, decide_eq_true_eq, Bool.and_eq_true, beq_iff_eq] at h1 h2 ⊢
    rcases h1 with h1 | ⟨rfl, h1⟩
    · rcases h2 with h2 | ⟨rfl, h2⟩
      · exact .inl (UInt8.lt_trans h1 h2)
      · exact .inl h1
    · rcases h2 with h2 | ⟨rfl, h2⟩
      · exact .inl h2
      · exact .inr ⟨rfl, bl_trans x y z h1 h2⟩
theorem bl_total : ∀ a b : List UInt8, Op.bytesLess a b = true ∨ a = b ∨ Op.bytesLess b a = true
  | [], [] => .inr (.inl rfl)
  | [], _ :: _ => .inl rfl
  | _ :: _, [] => .inr (.inr rfl)
  | a :: x, b :: y => by
    have tri : a < b ∨ a = b ∨ b < a := by
      rw [UInt8.lt_iff_toNat_lt, UInt8.lt_iff_toNat_lt, ← UInt8.toNat_inj]
      omega
    simp only [Op.bytesLess, Bool.or_eq_true, decide_eq_true_eq, Bool.and_eq_true, beq_iff_eq]
    rcases tri with h | rfl | h
    · exact .inl (.inl h)
    · rcases bl_total x y with h | rfl | h
      · exact .inl (.inr ⟨rfl, h⟩)
      · exact .inr (.inl rfl)
      · exact .inr (.inr (.inr ⟨rfl, h⟩))
    · exact .inr (.inr (.inl h))
theorem less_irrefl (a : ByteArray) : less a a = false := bl_irrefl _
theorem less_trans {a b c : ByteArray} (h1 : less a b = true) (h2 : less b c = true) : less a c = true := bl_trans _ _ _ h1 h2
theorem less_total (a b : ByteArray) : less a b = true ∨ a = b ∨ less b a = true := by
  rcases bl_total a.toList b.toList with h | h | h
  · exact .inl h
  · exact .inr (.inl (toList_inj h))
  · exact .inr (.inr h)
theorem not_less_empty (b : ByteArray) (e : ByteArray) (h : e.size = 0) : less b e = false := by
  unfold less
  rw [(empty_iff e).mpr h]
  cases b.toList <;> rfl

end Go.Proofs.Ytffkgdaookidbaa.Base
namespace Go.Proofs.Ytffkgdaookidbaa.Pure
open Go.RowKit Go.Proofs.Ytffkgdaookidbaa.XNx Go.Proofs.Ytffkgdaookidbaa.Base Go.Proofs.YtffkgdaookidbaaW.PrintWords Go.Proofs.YtffkgdaookidbaaW.PrintLast Go.Proofs.YtffkgdaookidbaaW.PrintMore

theorem idx_some {key : ByteArray} {l : List S32} {i : Nat} (h : idx key l = some i) : i < l.length ∧ less key (en l i).f0 = true ∧ ∀ j, j < i → less key (en l j).f0 = false := by
  obtain ⟨hi, hp, hn⟩ := List.findIdx?_eq_some_iff_getElem.mp h
  refine ⟨hi, by rw [en_get l i hi]; exact hp, fun j hj => ?_⟩
  rw [en_get l j (by omega)]
  have := hn j hj
  simpa [less] using this
theorem idx_none' {key : ByteArray} {l : List S32} (h : idx key l = none) (j : Nat) (hj : j < l.length) : less key (en l j).f0 = false := by
  have := List.findIdx?_eq_none_iff.mp h l[j] (List.getElem_mem hj)
  rw [en_get l j hj]
  exact this
/-- Find on a node with entries: an index, with the keys about it. -/
theorem fnd_law {key : ByteArray} {l : List S32} (hl : 1 ≤ l.length) : ∃ i : Nat, fnd l key = (i : Int) ∧ i < l.length ∧ (i + 1 < l.length → less key (en l i).f0 = true) ∧ ∀ j, j < i → less key (en l j).f0 = false := by
  cases hx : idx key l with
  | some i =>
    obtain ⟨h1, h2, h3⟩ := idx_some hx
    exact ⟨i, by unfold fnd; rw [hx], h1, fun _ => h2, h3⟩
  | none =>
    refine ⟨l.length - 1, by unfold fnd; rw [hx]; show (l.length : Int) - 1 = _; omega, by omega, fun h => by omega, fun j hj => idx_none' hx j (by omega)⟩
theorem fnd_unique {key : ByteArray} {l : List S32} {i : Nat} (hi : i < l.length) (h1 : i + 1 < l.length → less key (en l i).f0 = true) (h2 : ∀ j, j < i → less key (en l j).f0 = false) : fnd l key = (i : Int) := by
  cases hx : idx key l with
  | some m =>
    obtain ⟨g1, g2, g3⟩ := idx_some hx
    unfold fnd
    rw [hx]
    show (m : Int) = (i : Int)
    by_cases hmi : m < i
    · rw [h2 m hmi] at g2
      cases g2
    · by_cases him : i < m
      · have := h1 (by omega)
        rw [g3 i him] at this
        cases this
      · omega
  | none =>
    unfold fnd
    rw [hx]
    show (l.length : Int) - 1 = (i : Int)
    by_cases hl : i + 1 < l.length
    · have := h1 hl
      rw [idx_none' hx i hi] at this
      cases this
    · omega
structure Good (a b : Int) (l : List S32) : Prop where
  n1 : 1 ≤ l.length
  n2 : l.length ≤ 120
  a1 : 0 ≤ a
  a2 : a ≤ 6
  b1 : 0 ≤ b
  b2 : b ≤ 16777216
  ok : ∀ i, i < l.length → (1 ≤ (en l i).f1 ∧ (en l i).f1 ≤ 16777216 ∧ (en l i).f0.size ≤ 32) ∧ ((en l i).f0.size = 0 ↔ i + 1 = l.length) ∧ (i = 0 ∨ i + 1 = l.length ∨ less (en l (i - 1)).f0 (en l i).f0 = true)
theorem good_iff (a b : Int) (l : List S32) : valid a b l = true ↔ Good a b l := by
  rw [valid_iff]
  constructor
  · intro ⟨hh, hi⟩
    obtain ⟨h1, h2, h3, h4, h5, h6⟩ := of_decide_eq_true hh
    exact ⟨h1, h2, h3, h4, h5, h6, fun i h => (okAt_iff l i).mp (hi i h)⟩
  · intro g
    exact ⟨decide_eq_true ⟨g.n1, g.n2, g.a1, g.a2, g.b1, g.b2⟩, fun i h => (okAt_iff l i).mpr (g.ok i h)⟩
theorem Good.incr {a b : Int} {l : List S32} (g : Good a b l) (i d : Nat) (h : i + d + 2 < l.length) : less (en l i).f0 (en l (i + d + 1)).f0 = true := by
  induction d with
  | zero =>
    obtain ⟨_, _, h3⟩ := g.ok (i + 1) (by omega)
    rcases h3 with h3 | h3 | h3
    · omega
    · omega
    · exact h3
  | succ d ih =>
    obtain ⟨_, _, h3⟩ := g.ok (i + d + 2) (by omega)
    rcases h3 with h3 | h3 | h3
    · omega
    · omega
    · exact less_trans (ih (by omega)) h3
theorem page_f' (a b : Int) (l : List S32) (key : ByteArray) (i : Nat) (h : fnd l key = (i : Int)) (hi : i < l.length) : node_Find.f a b l key = some (i : Int) := by
  unfold node_Find.f
  rw [h]
theorem en_eq (l l' : List S32) (i j : Nat) (h : l[i]? = l'[j]?) : en l i = en l' j := by
  unfold en rd_T32
  rw [Int.toNat_natCast, Int.toNat_natCast, List.getD_eq_getElem?_getD, List.getD_eq_getElem?_getD, h]
end Go.Proofs.Ytffkgdaookidbaa.Pure
