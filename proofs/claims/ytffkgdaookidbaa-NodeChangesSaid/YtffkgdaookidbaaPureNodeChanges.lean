/-
The reference's Find, Insert and Split answer what the program's do, for any node; and the law NodeChanges, walked: it answers true for any node, key, index and page; other memory is as it was.
-/
import Derived.Test.YtffkgdaookidbaaXNx13
import Derived.Test.YtffkgdaookidbaaXNx17
import Derived.Test.YtffkgdaookidbaaAwake
import Derived.Test.YtffkgdaookidbaaXNx3
import Derived.Test.YtffkgdaookidbaaXNx18
import Derived.Test.YtffkgdaookidbaaXNx20
import Derived.Test.YtffkgdaookidbaaXNx21
import Derived.Test.YtffkgdaookidbaaExtInsert
import Derived.Test.YtffkgdaookidbaaFindL
import Derived.Deep.RegionHeld3
import Derived.Deep.DrawnRows
set_option linter.unusedVariables false
set_option linter.unusedSimpArgs false
namespace Go.Proofs.Ytffkgdaookidbaa.Pure
open Go.RowKit Go.Proofs.Ytffkgdaookidbaa.XNx Go.Proofs.Ytffkgdaookidbaa.Base Go.Proofs.YtffkgdaookidbaaW.PrintWords Go.Proofs.YtffkgdaookidbaaW.PrintLast Go.Proofs.YtffkgdaookidbaaW.PrintMore

theorem same_go (a b : Int) (l : List S32) (hl : l.length ≤ 9223372036854775807) (d : Nat) : ∀ i : Nat, l.length = i + d → Ev (fun k => dasdref20_Same.l0 k (i : Int) a b l a b l) true := by
  induction d with
  | zero =>
    intro i h
    refine Ev.step (f := fun _ => some _) (fun k => ?_) (Ev.now _)
    rw [dasdref20_Same.l0, if_neg (by omega)]
  | succ d ih =>
    intro i h
    refine Ev.step (fun k => ?_) (ih (i + 1) (by omega))
    show dasdref20_Same.l0 (k + 1) (i : Int) a b l a b l = dasdref20_Same.l0 k ((i + 1 : Nat) : Int) a b l a b l
    have e : (!((rd_T32 l (i : Int)).f0.toList == (rd_T32 l (i : Int)).f0.toList) || (!((rd_T32 l (i : Int)).f1 == (rd_T32 l (i : Int)).f1))) = false := by
      rw [beq_self_eq_true, beq_self_eq_true]; rfl
    rw [dasdref20_Same.l0, if_pos (by omega), if_pos (by omega), if_pos (by omega), e, if_neg (by simp), w64 (by omega) (by omega)]
    rfl
theorem same_true (a b : Int) (l : List S32) (hl : l.length ≤ 9223372036854775807) : Ev (fun k => dasdref20_Same.f k a b l a b l) true := by
  have := same_go a b l hl l.length 0 (by omega)
  unfold dasdref20_Same.f
  refine Ev.congr (fun k => (if_pos rfl).trans (if_pos rfl)) ?_
  refine Ev.step (fun k => ?_) this
  rw [dasdref20_Same.j0, if_neg (by simp)]
  rfl
theorem rfind_l0 (a b : Int) (l : List S32) (hl : l.length ≤ 9223372036854775807) (key : ByteArray) (d : Nat) : ∀ i : Nat, l.length = i + d → (∀ j, j < i → less key (en l j).f0 = false) → Ev (fun k => dasdref20_Find.l0 k key (i : Int) a b l) (fnd l key) := by
  induction d with
  | zero =>
    intro i h hn
    have e : idx key l = none := by
      unfold idx
      rw [List.findIdx?_eq_none_iff]
      intro x hx
      obtain ⟨j, hj, rfl⟩ := List.mem_iff_getElem.mp hx
      have := hn j (by omega)
      rw [en_get l j hj] at this
      exact this
    refine Ev.step (f := fun _ => some _) (fun k => ?_) (Ev.now _)
    rw [dasdref20_Find.l0, if_neg (by omega), w64 (by omega) (by omega)]
    unfold fnd
    rw [e]
  | succ d ih =>
    intro i h hn
    have hx : rd_T32 l (i : Int) = en l i := rfl
    cases hc : less key (en l i).f0 with
    | true =>
      refine Ev.step (f := fun _ => some _) (fun k => ?_) (Ev.now _)
      rw [dasdref20_Find.l0, if_pos (by omega), if_pos (by omega), hx, if_pos (show Op.bytesLess key.toList (en l i).f0.toList = true from hc), fnd_unique (i := i) (by omega) (fun _ => hc) hn]
    | false =>
      refine Ev.step (fun k => ?_) (ih (i + 1) (by omega) (fun j hj => by
        by_cases e : j = i
        · rw [e]
          exact hc
        · exact hn j (by omega)))
      rw [dasdref20_Find.l0, if_pos (by omega), if_pos (by omega), hx, if_neg (by unfold less at hc; rw [hc]; simp), w64 (by omega) (by omega)]
      rfl
theorem rfind_ev (a b : Int) (l : List S32) (hl : l.length ≤ 9223372036854775807) (key : ByteArray) : Ev (fun k => dasdref20_Find.f k a b l key) (fnd l key) :=
  rfind_l0 a b l hl key l.length 0 (by omega) (fun j hj => absurd hj (by omega))
theorem put_eq (l : List S32) (i : Nat) (hi : i < l.length) (x y : S32) : ([] ++ l.take i ++ [x, y]) ++ l.drop (i + 1) = (l.take i ++ x :: l.drop i).set (i + 1) y := by
  have hl : (l.take i).length = i := by rw [List.length_take]; omega
  rw [List.drop_eq_getElem_cons hi, List.nil_append, List.set_append_right _ _ (by omega), hl, Nat.add_sub_cancel_left]
  simp
  rw [List.drop_eq_getElem_cons hi]
  rfl
theorem rinsert_ev (a b : Int) (l : List S32) (hl : l.length ≤ 9223372036854775807) (i : Int) (below : ByteArray) (page : Int) : ∃ r, node_Insert.f a b l i below page = some r ∧ Ev (fun k => dasdref20_Insert.f k a b l i below page) r := by
  have bad : Ev (fun k => dasdref20_Insert.j0 k i below page true a b l) ((0 : Int), (0 : Int), ([] : List S32), (1 : Int)) := Ev.step (f := fun _ => some _) (fun k => by rw [dasdref20_Insert.j0, if_pos rfl]) (Ev.now _)
  have iv := isnode_ev a b l hl
  by_cases h1 : valid a b l = false ∨ ¬ (1 ≤ page ∧ page ≤ 16777216) ∨ i < 0 ∨ (l.length : Int) ≤ i
  · refine ⟨(0, 0, [], 1), by unfold node_Insert.f; rw [if_pos h1], ?_⟩
    unfold dasdref20_Insert.f
    refine Ev.bind iv ?_
    cases hv : valid a b l with
    | false => exact Ev.congr (fun k => if_neg (by simp)) bad
    | true =>
      refine Ev.congr (fun k => if_pos rfl) ?_
      by_cases q1 : page < 1
      · exact Ev.congr (fun k => if_pos q1) bad
      refine Ev.congr (fun k => if_neg q1) ?_
      by_cases q2 : page > 16777216
      · exact Ev.congr (fun k => if_pos q2) bad
      refine Ev.congr (fun k => if_neg q2) ?_
      by_cases q3 : i < 0
      · exact Ev.congr (fun k => if_pos q3) bad
      refine Ev.congr (fun k => if_neg q3) ?_
      have q4 : i ≥ (l.length : Int) := by
        rcases h1 with h1 | h1 | h1 | h1
        · rw [hv] at h1
          cases h1
        · omega
        · omega
        · exact h1
      rw [decide_eq_true q4]
      exact bad
  · have hv : valid a b l = true := by
      cases hv : valid a b l with
      | true => rfl
      | false => exact absurd (.inl hv) h1
    have hp : 1 ≤ page ∧ page ≤ 16777216 := Decidable.byContradiction fun hp => h1 (.inr (.inl hp))
    have hn : ¬ i < 0 := fun hn => h1 (.inr (.inr (.inl hn)))
    have ho : ¬ (l.length : Int) ≤ i := fun ho => h1 (.inr (.inr (.inr ho)))
    have g := (good_iff a b l).mp hv
    have gn := g.n1
    have gn2 := g.n2
    obtain ⟨i, rfl⟩ : ∃ j : Nat, i = (j : Int) := ⟨i.toNat, by omega⟩
    have hi : i < l.length := by omega
    have hx : rd_T32 l (i : Int) = en l i := rfl
    have oldE : (en l i).f0.toList.isEmpty = false ↔ i + 1 < l.length := by
      have := (g.ok i hi).2.1
      have e := empty_iff (en l i).f0
      cases hc : (en l i).f0.toList.isEmpty with
      | true =>
        have := e.mp (List.isEmpty_iff.mp hc)
        constructor
        · intro h
          cases h
        · omega
      | false =>
        refine ⟨fun _ => ?_, fun _ => rfl⟩
        have : (en l i).f0.size ≠ 0 := fun h => by
          rw [e.mpr h] at hc
          cases hc
        omega
    have start : ∀ r : Int × Int × List S32 × Int, Ev (fun k => dasdref20_Insert.j0 k (i : Int) below page false a b l) r → Ev (fun k => dasdref20_Insert.f k a b l (i : Int) below page) r := by
      intro r e
      unfold dasdref20_Insert.f
      rw [hv] at iv
      refine Ev.bind iv ?_
      refine Ev.congr (fun k => (if_pos rfl).trans ((if_neg (by omega)).trans ((if_neg (by omega)).trans (if_neg hn)))) ?_
      rw [decide_eq_false (show ¬ (i : Int) ≥ (l.length : Int) by omega)]
      exact e
    -- the first test
    have t0 : Ev (fun k => dasdref20_Insert.j0 k (i : Int) below page false a b l) (if wrong l i below then ((0 : Int), (0 : Int), ([] : List S32), (2 : Int)) else if l.length = 120 then (0, 0, [], 8) else (a, b, (l.take i ++ ⟨below, (en l i).f1⟩ :: l.drop i).set (i + 1) ⟨(en l i).f0, page⟩, 0)) := by
      have no : wrong l i below → Ev (fun k => dasdref20_Insert.j1 k (i : Int) below page true a b l) (if wrong l i below then ((0 : Int), (0 : Int), ([] : List S32), (2 : Int)) else if l.length = 120 then (0, 0, [], 8) else (a, b, (l.take i ++ ⟨below, (en l i).f1⟩ :: l.drop i).set (i + 1) ⟨(en l i).f0, page⟩, 0)) := fun hw => by
        rw [if_pos hw]
        exact Ev.step (f := fun _ => some _) (fun k => by rw [dasdref20_Insert.j1, if_pos rfl]) (Ev.now _)
      have yes : ¬ wrong l i below → Ev (fun k => dasdref20_Insert.j1 k (i : Int) below page false a b l) (if wrong l i below then ((0 : Int), (0 : Int), ([] : List S32), (2 : Int)) else if l.length = 120 then (0, 0, [], 8) else (a, b, (l.take i ++ ⟨below, (en l i).f1⟩ :: l.drop i).set (i + 1) ⟨(en l i).f0, page⟩, 0)) := fun hw => by
        rw [if_neg hw]
        refine Ev.step (f := fun _ => some _) (fun k => ?_) (Ev.now _)
        rw [dasdref20_Insert.j1, if_neg (show ¬ false = true by simp)]
        by_cases hf : l.length = 120
        · rw [if_pos (by omega), if_pos hf]
        · rw [if_neg (by omega), if_neg hf, Option.bind_some, if_pos (by omega), if_pos (by omega), Option.bind_some, Int.toNat_natCast, if_pos (by rw [List.length_take]; show 0 + _ < _; omega), Option.bind_some, if_pos (by omega), Option.bind_some,
            if_pos (by simp only [List.nil_append, List.length_take, List.length_cons, List.length_nil]; omega), Option.bind_some, w64 (by omega) (by omega), if_pos (by omega), if_pos (by omega), Option.bind_some, show ((i : Int) + 1).toNat = i + 1 by omega,
            if_pos (by simp only [List.nil_append, List.length_append, List.length_take, List.length_cons, List.length_nil, List.length_drop]; omega), hx, put_eq l i hi]
      have last : ∀ u : Bool, (u = true ↔ wrong l i below) → Ev (fun k => dasdref20_Insert.j1 k (i : Int) below page u a b l) (if wrong l i below then ((0 : Int), (0 : Int), ([] : List S32), (2 : Int)) else if l.length = 120 then (0, 0, [], 8) else (a, b, (l.take i ++ ⟨below, (en l i).f1⟩ :: l.drop i).set (i + 1) ⟨(en l i).f0, page⟩, 0)) := by
        intro u hu
        cases u with
        | true => exact no (hu.mp rfl)
        | false => exact yes (fun h => by have := hu.mpr h; cases this)
      refine Ev.step (fun k => by rw [dasdref20_Insert.j0, if_neg (show ¬ false = true by simp)]) ?_
      by_cases q1 : below.toList = ([] : List UInt8)
      · exact Ev.congr (fun k => if_pos q1) (last true ⟨fun _ => .inl (List.isEmpty_iff.mpr q1), fun _ => rfl⟩)
      refine Ev.congr (fun k => if_neg q1) ?_
      by_cases q2 : (below.size : Int) > 32
      · exact Ev.congr (fun k => if_pos q2) (last true ⟨fun _ => .inr (.inl (by omega)), fun _ => rfl⟩)
      refine Ev.congr (fun k => if_neg q2) ?_
      have q1' : ¬ below.toList.isEmpty = true := fun h => q1 (List.isEmpty_iff.mp h)
      -- what is left, where the bound before lies as it should
      have tail : ¬ (0 < i ∧ less (en l (i - 1)).f0 below = false) → Ev (fun k => (if (i : Int) < (wrap64 ((l.length : Int) - 1)) then (if 0 ≤ (i : Int) then (if (i : Int) < (l.length : Int) then (dasdref20_Insert.j1 k (i : Int) below page (!(Op.bytesLess below.toList (((rd_T32 l (i : Int)).f0).toList))) a b l) else (none)) else (none)) else (dasdref20_Insert.j1 k (i : Int) below page false a b l)))
          (if wrong l i below then ((0 : Int), (0 : Int), ([] : List S32), (2 : Int)) else if l.length = 120 then (0, 0, [], 8) else (a, b, (l.take i ++ ⟨below, (en l i).f1⟩ :: l.drop i).set (i + 1) ⟨(en l i).f0, page⟩, 0)) := by
        intro q3
        rw [w64 (by omega) (by omega)]
        by_cases q4 : (i : Int) < (l.length : Int) - 1
        · refine Ev.congr (fun k => (if_pos q4).trans ((if_pos (by omega)).trans (if_pos (by omega)))) (last _ ?_)
          rw [Bool.not_eq_true', hx]
          constructor
          · intro h
            exact .inr (.inr (.inr ⟨oldE.mpr (by omega), h⟩))
          · rintro (h | h | h | h)
            · exact absurd h q1'
            · omega
            · exact absurd h q3
            · exact h.2
        · refine Ev.congr (fun k => if_neg q4) (last _ ⟨fun h => (by cases h), ?_⟩)
          rintro (h | h | h | h)
          · exact absurd h q1'
          · omega
          · exact absurd h q3
          · have := oldE.mp h.1
            omega
      by_cases q3 : (i : Int) > 0
      · refine Ev.congr (fun k => if_pos q3) ?_
        rw [w64 (x := (i : Int) - 1) (by omega) (by omega), show (i : Int) - 1 = ((i - 1 : Nat) : Int) by omega]
        refine Ev.congr (fun k => (if_pos (by omega)).trans (if_pos (by omega))) ?_
        have hxp : rd_T32 l ((i - 1 : Nat) : Int) = en l (i - 1) := rfl
        rw [hxp]
        cases hb : less (en l (i - 1)).f0 below with
        | true =>
          refine Ev.congr (fun k => if_pos hb) ?_
          exact tail (fun h => by rw [hb] at h; cases h.2)
        | false =>
          exact Ev.congr (fun k => if_neg (by unfold less at hb; rw [hb]; simp)) (last true ⟨fun _ => .inr (.inr (.inl ⟨by omega, hb⟩)), fun _ => rfl⟩)
      · refine Ev.congr (fun k => if_neg q3) ?_
        exact tail (fun h => by omega)
    refine ⟨_, ?_, start _ t0⟩
    unfold node_Insert.f
    rw [if_neg h1, Int.toNat_natCast]
    by_cases hw : wrong l i below
    · rw [if_pos hw, if_pos hw]
    · rw [if_neg hw, if_neg hw]
      by_cases hf : l.length = 120
      · rw [if_pos hf, if_pos hf]
      · rw [if_neg hf, if_neg hf]
theorem rsplit_ev (a b : Int) (l : List S32) (hl : l.length ≤ 9223372036854775807) : ∃ r, node_Split.f a b l = some r ∧ Ev (fun k => dasdref20_Split.f k a b l) r := by
  have iv := isnode_ev a b l hl
  cases hv : valid a b l with
  | false =>
    rw [hv] at iv
    refine ⟨_, by unfold node_Split.f; rw [if_pos hv], ?_⟩
    unfold dasdref20_Split.f
    refine Ev.bind iv ?_
    exact Ev.congr (fun k => if_neg (by simp)) (Ev.now _)
  | true =>
    rw [hv] at iv
    have g := (good_iff a b l).mp hv
    have gn := g.n1
    have gn2 := g.n2
    by_cases h1 : l.length = 1
    · refine ⟨_, by unfold node_Split.f; rw [if_neg (by rw [hv]; simp), if_pos h1], ?_⟩
      unfold dasdref20_Split.f
      refine Ev.bind iv ?_
      exact Ev.congr (fun k => (if_pos rfl).trans (if_pos (by omega))) (Ev.now _)
    · obtain ⟨k, hk⟩ : ∃ k, k = (l.length + 1) / 2 := ⟨_, rfl⟩
      refine ⟨(a, 0, (l.set (k - 1) ⟨⟨#[]⟩, (en l (k - 1)).f1⟩).take k, a, b, (l.set (k - 1) ⟨⟨#[]⟩, (en l (k - 1)).f1⟩).drop k, (en l (k - 1)).f0, 0), by unfold node_Split.f; rw [if_neg (by rw [hv]; simp), if_neg h1, ← hk], ?_⟩
      unfold dasdref20_Split.f
      refine Ev.bind iv ?_
      refine Ev.congr (f := fun _ => some _) (fun k' => ?_) (Ev.now _)
      have e1 : wrap64 (Int.tdiv (wrap64 ((l.length : Int) + 1)) 2) = (k : Int) := by
        rw [w64 (x := (l.length : Int) + 1) (by omega) (by omega), Int.tdiv_eq_ediv_of_nonneg (by omega), w64 (by omega) (by omega)]
        omega
      have e2 : wrap64 ((k : Int) - 1) = ((k - 1 : Nat) : Int) := by rw [w64 (by omega) (by omega)]; omega
      have er : rd_T32 ([] ++ l.take k) ((k - 1 : Nat) : Int) = en l (k - 1) := by
        show en ([] ++ l.take k) (k - 1) = _
        apply en_eq
        rw [List.nil_append, List.getElem?_take, if_pos (by omega)]
      have e3 : (l.take k).length = k := by rw [List.length_take]; omega
      rw [if_pos rfl, if_neg (by omega), Option.bind_some, e1, e2, if_pos (by omega), if_pos (by omega), Option.bind_some, Int.toNat_natCast, if_pos (by rw [e3]; show 0 + _ < _; omega), Option.bind_some, if_pos (by omega), if_pos (by rw [List.nil_append, e3]; omega), Option.bind_some, Option.bind_some,
        if_pos (by rw [List.length_drop]; show 0 + _ < _; omega), er, Int.toNat_natCast, List.nil_append, List.nil_append, List.take_set, List.drop_set, if_pos (by omega)]
end Go.Proofs.Ytffkgdaookidbaa.Pure
namespace Go.Proofs.Ytffkgdaookidbaa.Pure
open Go.RowKit Go.Proofs.Ytffkgdaookidbaa.XNx Go.Proofs.Ytffkgdaookidbaa.Base Go.Proofs.YtffkgdaookidbaaW.PrintWords Go.Proofs.YtffkgdaookidbaaW.PrintLast Go.Proofs.YtffkgdaookidbaaW.PrintMore
open Go.Proofs.Ytffkgdaookidbaa.XW

theorem few_go (a b : Int) (l : List S32) (hl : l.length ≤ 9223372036854775807) (d : Nat) : ∀ i : Nat, l.length = i + d → ∃ r, Ev (fun k => dasdref20_Few.l0 k (i : Int) a b l) r ∧ (r = true → l.length ≤ 200) := by
  induction d with
  | zero =>
    intro i h
    refine ⟨decide ((l.length : Int) ≤ 200), Ev.step (f := fun _ => some _) (fun k => ?_) (Ev.now _), fun h => by have := of_decide_eq_true h; omega⟩
    rw [dasdref20_Few.l0, if_neg (by omega)]
  | succ d ih =>
    intro i h
    by_cases hb : ((rd_T32 l (i : Int)).f0.size : Int) > 100
    · refine ⟨false, Ev.step (f := fun _ => some _) (fun k => ?_) (Ev.now _), fun h => by cases h⟩
      rw [dasdref20_Few.l0, if_pos (by omega), if_pos (by omega), if_pos hb]
    · obtain ⟨r, e, p⟩ := ih (i + 1) (by omega)
      refine ⟨r, Ev.step (fun k => ?_) e, p⟩
      show dasdref20_Few.l0 (k + 1) (i : Int) a b l = dasdref20_Few.l0 k ((i + 1 : Nat) : Int) a b l
      rw [dasdref20_Few.l0, if_pos (by omega), if_pos (by omega), if_neg hb, w64 (by omega) (by omega)]
      rfl
theorem few_true (a b : Int) (l : List S32) (hl : l.length ≤ 9223372036854775807) : ∃ r, Ev (fun k => dasdref20_Few.f k a b l) r ∧ (r = true → l.length ≤ 200) :=
  few_go a b l hl l.length 0 (by omega)
theorem awake_calls (w : World) : Calls Try.prog 10 #[] w fun e w' => e = .returned (.bool true) ∧ Below w.heap.size w w' := by
  obtain ⟨k, hk⟩ := Ev.rounds awake_ev
  exact dasdlaw20_awake.calls k true w hk
section
variable {A : Option Addr} {c : Nat} {l : List S32} {a b : Int} {w : World}
theorem same_calls {A' : Option Addr} {c' : Nat} (hr : Kd.C k32 w A l.length l) (hc : l.length ≤ c) (hr' : Kd.C k32 w A' l.length l) (hc' : l.length ≤ c') :
    Calls Try.prog 20 #[.agg #[.int .i64 a, .int .i64 b, .slice A l.length c], .agg #[.int .i64 a, .int .i64 b, .slice A' l.length c']] w fun e w' => e = .returned (.bool true) ∧ Below w.heap.size w w' := by
  obtain ⟨k, hk⟩ := Ev.rounds (same_true a b l hr.2.1)
  exact dasdref20_Same.calls k a b A c l a b A' c' l true w hr hc hr' hc' hk
theorem find_calls (key : ByteArray) (hr : Kd.C k32 w A l.length l) (hc : l.length ≤ c) :
    Calls Try.prog 12 #[.agg #[.int .i64 a, .int .i64 b, .slice A l.length c], .string key] w fun e w' => e = .returned (.int .i64 (fnd l key)) ∧ Below w.heap.size w w' :=
  node_Find.calls a b A c l key (fnd l key) w hr hc rfl
theorem rfind_calls (key : ByteArray) (hr : Kd.C k32 w A l.length l) (hc : l.length ≤ c) :
    Calls Try.prog 19 #[.agg #[.int .i64 a, .int .i64 b, .slice A l.length c], .string key] w fun e w' => e = .returned (.int .i64 (fnd l key)) ∧ Below w.heap.size w w' := by
  obtain ⟨k, hk⟩ := Ev.rounds (rfind_ev a b l hr.2.1 key)
  exact dasdref20_Find.calls k a b A c l key _ w hr hc hk
theorem insert_calls' (i page : Int) (key : ByteArray) {r1 r2 r4 : Int} {r3 : List S32} (h : node_Insert.f a b l i key page = some (r1, r2, r3, r4)) (hr : Kd.C k32 w A l.length l) (hc : l.length ≤ c) :
    Calls Try.prog 13 #[.agg #[.int .i64 a, .int .i64 b, .slice A l.length c], .int .i64 i, .string key, .int .i64 page] w fun e w' => ∃ (B : Option Addr) (d : Nat), e = .returned (.tuple #[.agg #[.int .i64 r1, .int .i64 r2, .slice B r3.length d], .int .i64 r4]) ∧ r3.length ≤ d ∧ Kd.C k32 w' B r3.length r3 ∧ Below w.heap.size w w' := by
  refine (node_Insert.calls a b A c l i key page r1 r2 r3 r4 w hr hc h).mono ?_
  rintro e w' ⟨v, rfl, ho, hb⟩
  obtain ⟨B, d, rfl, hd, hC⟩ := Kd.R_reads ho
  exact ⟨B, d, rfl, hd, hC, hb⟩
theorem rinsert_calls (i page : Int) (key : ByteArray) {r1 r2 r4 : Int} {r3 : List S32} (h : Ev (fun k => dasdref20_Insert.f k a b l i key page) (r1, r2, r3, r4)) (hr : Kd.C k32 w A l.length l) (hc : l.length ≤ c) :
    Calls Try.prog 16 #[.agg #[.int .i64 a, .int .i64 b, .slice A l.length c], .int .i64 i, .string key, .int .i64 page] w fun e w' => ∃ (B : Option Addr) (d : Nat), e = .returned (.tuple #[.agg #[.int .i64 r1, .int .i64 r2, .slice B r3.length d], .int .i64 r4]) ∧ r3.length ≤ d ∧ Kd.C k32 w' B r3.length r3 ∧ Below w.heap.size w w' := by
  obtain ⟨k, hk⟩ := Ev.rounds h
  refine (dasdref20_Insert.calls k a b A c l i key page r1 r2 r3 r4 w hr hc hk).mono ?_
  rintro e w' ⟨v, rfl, ho, hb⟩
  obtain ⟨B, d, rfl, hd, hC⟩ := Kd.R_reads ho
  exact ⟨B, d, rfl, hd, hC, hb⟩
theorem split_calls' {r1 r2 r4 r5 r8 : Int} {r3 r6 : List S32} {r7 : ByteArray} (h : node_Split.f a b l = some (r1, r2, r3, r4, r5, r6, r7, r8)) (hr : Kd.C k32 w A l.length l) (hc : l.length ≤ c) :
    Calls Try.prog 17 #[.agg #[.int .i64 a, .int .i64 b, .slice A l.length c]] w fun e w' => ∃ (B B' : Option Addr) (d d' : Nat), e = .returned (.tuple #[.agg #[.int .i64 r1, .int .i64 r2, .slice B r3.length d], .agg #[.int .i64 r4, .int .i64 r5, .slice B' r6.length d'], .string r7, .int .i64 r8]) ∧ r3.length ≤ d ∧ Kd.C k32 w' B r3.length r3 ∧ r6.length ≤ d' ∧ Kd.C k32 w' B' r6.length r6 ∧ Below w.heap.size w w' := by
  refine (node_Split.calls a b A c l r1 r2 r3 r4 r5 r6 r7 r8 w hr hc h).mono ?_
  rintro e w' ⟨v, v', rfl, ⟨B, d, rfl, hd, hC⟩, ⟨B', d', rfl, hd', hC'⟩, hb⟩
  exact ⟨B, B', d, d', rfl, hd, Kd.F_now hC, hd', Kd.F_now hC', hb⟩
theorem rsplit_calls {r1 r2 r4 r5 r8 : Int} {r3 r6 : List S32} {r7 : ByteArray} (h : Ev (fun k => dasdref20_Split.f k a b l) (r1, r2, r3, r4, r5, r6, r7, r8)) (hr : Kd.C k32 w A l.length l) (hc : l.length ≤ c) :
    Calls Try.prog 18 #[.agg #[.int .i64 a, .int .i64 b, .slice A l.length c]] w fun e w' => ∃ (B B' : Option Addr) (d d' : Nat), e = .returned (.tuple #[.agg #[.int .i64 r1, .int .i64 r2, .slice B r3.length d], .agg #[.int .i64 r4, .int .i64 r5, .slice B' r6.length d'], .string r7, .int .i64 r8]) ∧ r3.length ≤ d ∧ Kd.C k32 w' B r3.length r3 ∧ r6.length ≤ d' ∧ Kd.C k32 w' B' r6.length r6 ∧ Below w.heap.size w w' := by
  obtain ⟨k, hk⟩ := Ev.rounds h
  refine (dasdref20_Split.calls k a b A c l r1 r2 r3 r4 r5 r6 r7 r8 w hr hc hk).mono ?_
  rintro e w' ⟨v, v', rfl, ho, ho', hb⟩
  obtain ⟨B, d, rfl, hd, hC⟩ := Kd.R_reads ho
  obtain ⟨B', d', rfl, hd', hC'⟩ := Kd.R_reads ho'
  exact ⟨B, B', d, d', rfl, hd, hC, hd', hC', hb⟩
end
set_option maxHeartbeats 8000000 in
set_option maxRecDepth 100000 in
theorem ch_few (f0 f1 : Int) (A : Option Addr) (c : Nat) (l : List S32) (key : ByteArray) (i page : Int) (w : World) (hr : Kd.C k32 w A l.length l) (hc : l.length ≤ c) (k : Nat) (t : Bool) (hk : dasdref20_Few.f k f0 f1 l = some t) (ht : t = false) :
    Calls Try.prog 4 #[.agg #[.int .i64 f0, .int .i64 f1, .slice A l.length c], .string key, .int .i64 i, .int .i64 page] w fun e w' => e = .returned (.bool true) ∧ Below w.heap.size w w' := by
  have hu24 := Try.underlying24
  have HR := Aside0.mk hr
  have HC := Aside0.mk hc
  have HK := Aside0.mk hk
  clear hr hc hk
  subst ht
  go_enter Try.func4, Try.ntmps4
  go_wp2_with fail
  refine (awake_calls _).mono ?_
  rintro e w1 ⟨rfl, hb⟩
  have B1 := Aside0.mk (blk_below (blk_new w (.cells #[.int .i64 f0, .int .i64 f1, .slice A l.length c] 24)) hb)
  have HB1 := Aside0.mk (below_step ((Below.refl w.heap.size w).alloc (Nat.le_refl _) (.cells #[.int .i64 f0, .int .i64 f1, .slice A l.length c] 24)) hb)
  clear hb
  have cn0 : w1.cell? ⟨w.heap.size, 0, none⟩ = some (.int .i64 f0) := (blk_cell B1.out 0).trans rfl
  have cn1 : w1.cell? ⟨w.heap.size, 1, none⟩ = some (.int .i64 f1) := (blk_cell B1.out 1).trans rfl
  have cn2 : w1.cell? ⟨w.heap.size, 2, none⟩ = some (.slice A l.length c) := (blk_cell B1.out 2).trans rfl
  go_wp2_with fail
  refine (dasdref20_Few.calls k f0 f1 A c l _ _ (Kd.C_below HR.out HB1.out) HC.out HK.out).mono ?_
  rintro e w2 ⟨rfl, hb⟩
  have B2 := Aside0.mk (blk_below B1.out hb)
  have HB2 := Aside0.mk (below_step HB1.out hb)
  clear hb cn0 cn1 cn2
  have cn0 : w2.cell? ⟨w.heap.size, 0, none⟩ = some (.int .i64 f0) := (blk_cell B2.out 0).trans rfl
  have cn1 : w2.cell? ⟨w.heap.size, 1, none⟩ = some (.int .i64 f1) := (blk_cell B2.out 1).trans rfl
  have cn2 : w2.cell? ⟨w.heap.size, 2, none⟩ = some (.slice A l.length c) := (blk_cell B2.out 2).trans rfl
  go_wp2
  go_ret
  exact ⟨rfl, HB2.out⟩
set_option maxHeartbeats 8000000 in
set_option maxRecDepth 100000 in
theorem ch_long (f0 f1 : Int) (A : Option Addr) (c : Nat) (l : List S32) (key : ByteArray) (i page : Int) (w : World) (hr : Kd.C k32 w A l.length l) (hc : l.length ≤ c) (k : Nat) (t : Bool) (hk : dasdref20_Few.f k f0 f1 l = some t) (ht : t = true) (hl : decide ((100 : Int) < (key.size : Int)) = true) :
    Calls Try.prog 4 #[.agg #[.int .i64 f0, .int .i64 f1, .slice A l.length c], .string key, .int .i64 i, .int .i64 page] w fun e w' => e = .returned (.bool true) ∧ Below w.heap.size w w' := by
  have hu24 := Try.underlying24
  have HR := Aside0.mk hr
  have HC := Aside0.mk hc
  have HK := Aside0.mk hk
  clear hr hc hk
  subst ht
  go_enter Try.func4, Try.ntmps4
  go_wp2_with fail
  refine (awake_calls _).mono ?_
  rintro e w1 ⟨rfl, hb⟩
  have B1 := Aside0.mk (blk_below (blk_new w (.cells #[.int .i64 f0, .int .i64 f1, .slice A l.length c] 24)) hb)
  have HB1 := Aside0.mk (below_step ((Below.refl w.heap.size w).alloc (Nat.le_refl _) (.cells #[.int .i64 f0, .int .i64 f1, .slice A l.length c] 24)) hb)
  clear hb
  have cn0 : w1.cell? ⟨w.heap.size, 0, none⟩ = some (.int .i64 f0) := (blk_cell B1.out 0).trans rfl
  have cn1 : w1.cell? ⟨w.heap.size, 1, none⟩ = some (.int .i64 f1) := (blk_cell B1.out 1).trans rfl
  have cn2 : w1.cell? ⟨w.heap.size, 2, none⟩ = some (.slice A l.length c) := (blk_cell B1.out 2).trans rfl
  go_wp2_with fail
  refine (dasdref20_Few.calls k f0 f1 A c l _ _ (Kd.C_below HR.out HB1.out) HC.out HK.out).mono ?_
  rintro e w2 ⟨rfl, hb⟩
  have B2 := Aside0.mk (blk_below B1.out hb)
  have HB2 := Aside0.mk (below_step HB1.out hb)
  clear hb cn0 cn1 cn2
  have cn0 : w2.cell? ⟨w.heap.size, 0, none⟩ = some (.int .i64 f0) := (blk_cell B2.out 0).trans rfl
  have cn1 : w2.cell? ⟨w.heap.size, 1, none⟩ = some (.int .i64 f1) := (blk_cell B2.out 1).trans rfl
  have cn2 : w2.cell? ⟨w.heap.size, 2, none⟩ = some (.slice A l.length c) := (blk_cell B2.out 2).trans rfl
  go_wp2
  go_ret
  exact ⟨rfl, HB2.out⟩
attribute [local go_sem ↓] Go.wp_at_zero Go.wp_at_succ
set_option maxHeartbeats 8000000 in
set_option maxRecDepth 100000 in
theorem ch_main (f0 f1 : Int) (A : Option Addr) (c : Nat) (l : List S32) (key : ByteArray) (i page : Int) (w : World) (hr : Kd.C k32 w A l.length l) (hc : l.length ≤ c) (k : Nat) (t : Bool) (hk : dasdref20_Few.f k f0 f1 l = some t) (ht : t = true) (hl : decide ((100 : Int) < (key.size : Int)) = false) (p1 p2 p4 : Int) (p3 : List S32) (hi : node_Insert.f f0 f1 l i key page = some (p1, p2, p3, p4)) (hi' : Ev (fun k => dasdref20_Insert.f k f0 f1 l i key page) (p1, p2, p3, p4)) (q1 q2 q4 q5 q8 : Int) (q3 q6 : List S32) (q7 : ByteArray) (hs : node_Split.f f0 f1 l = some (q1, q2, q3, q4, q5, q6, q7, q8)) (hs' : Ev (fun k => dasdref20_Split.f k f0 f1 l) (q1, q2, q3, q4, q5, q6, q7, q8)) :
    Calls Try.prog 4 #[.agg #[.int .i64 f0, .int .i64 f1, .slice A l.length c], .string key, .int .i64 i, .int .i64 page] w fun e w' => e = .returned (.bool true) ∧ Below w.heap.size w w' := by
  have hu24 := Try.underlying24
  have HR := Aside0.mk hr
  have HC := Aside0.mk hc
  have HK := Aside0.mk hk
  clear hr hc hk
  subst ht
  have HI := Aside0.mk hi
  have HI' := Aside0.mk hi'
  have HS := Aside0.mk hs
  have HS' := Aside0.mk hs'
  clear hi hi' hs hs'
  go_enter Try.func4, Try.ntmps4
  go_wp2_with fail
  refine (awake_calls _).mono ?_
  rintro e w1 ⟨rfl, hb⟩
  have B1 := Aside0.mk (blk_below (blk_new w (.cells #[.int .i64 f0, .int .i64 f1, .slice A l.length c] 24)) hb)
  have HB1 := Aside0.mk (below_step ((Below.refl w.heap.size w).alloc (Nat.le_refl _) (.cells #[.int .i64 f0, .int .i64 f1, .slice A l.length c] 24)) hb)
  clear hb
  have cn0 : w1.cell? ⟨w.heap.size, 0, none⟩ = some (.int .i64 f0) := (blk_cell B1.out 0).trans rfl
  have cn1 : w1.cell? ⟨w.heap.size, 1, none⟩ = some (.int .i64 f1) := (blk_cell B1.out 1).trans rfl
  have cn2 : w1.cell? ⟨w.heap.size, 2, none⟩ = some (.slice A l.length c) := (blk_cell B1.out 2).trans rfl
  go_wp2_with fail
  refine (dasdref20_Few.calls k f0 f1 A c l _ _ (Kd.C_below HR.out HB1.out) HC.out HK.out).mono ?_
  rintro e w2 ⟨rfl, hb⟩
  have B2 := Aside0.mk (blk_below B1.out hb)
  have HB2 := Aside0.mk (below_step HB1.out hb)
  clear hb cn0 cn1 cn2
  have cn0 : w2.cell? ⟨w.heap.size, 0, none⟩ = some (.int .i64 f0) := (blk_cell B2.out 0).trans rfl
  have cn1 : w2.cell? ⟨w.heap.size, 1, none⟩ = some (.int .i64 f1) := (blk_cell B2.out 1).trans rfl
  have cn2 : w2.cell? ⟨w.heap.size, 2, none⟩ = some (.slice A l.length c) := (blk_cell B2.out 2).trans rfl
  have Bn2 := Aside0.mk B2.out
  clear B2
  go_wp2_with fail
  refine (insert_calls' i page key HI.out (Kd.C_below HR.out HB2.out) HC.out).mono ?_
  rintro e w3 ⟨Aa, da, rfl, hda, hCa, hb⟩
  have Bn3 := Aside0.mk (blk_below Bn2.out hb)
  have HB3 := Aside0.mk (below_step HB2.out hb)
  have HDa := Aside0.mk hda
  have Ca3 := Aside0.mk hCa
  clear hb cn0 cn1 cn2 hda hCa
  have cn0 : w3.cell? ⟨w.heap.size, 0, none⟩ = some (.int .i64 f0) := (blk_cell Bn3.out 0).trans rfl
  have cn1 : w3.cell? ⟨w.heap.size, 1, none⟩ = some (.int .i64 f1) := (blk_cell Bn3.out 1).trans rfl
  have cn2 : w3.cell? ⟨w.heap.size, 2, none⟩ = some (.slice A l.length c) := (blk_cell Bn3.out 2).trans rfl
  have nn0 := World.new_ne w3 _ cn0
  have nn1 := World.new_ne w3 _ cn1
  have nn2 := World.new_ne w3 _ cn2
  have an0 : (w3.alloc (.cells #[.int .i64 p1, .int .i64 p2, .slice Aa p3.length da] 24)).cell? ⟨w.heap.size, 0, none⟩ = some (.int .i64 f0) := (blk_cell (blk_alloc Bn3.out (.cells #[.int .i64 p1, .int .i64 p2, .slice Aa p3.length da] 24)) 0).trans rfl
  have an1 : (w3.alloc (.cells #[.int .i64 p1, .int .i64 p2, .slice Aa p3.length da] 24)).cell? ⟨w.heap.size, 1, none⟩ = some (.int .i64 f1) := (blk_cell (blk_alloc Bn3.out (.cells #[.int .i64 p1, .int .i64 p2, .slice Aa p3.length da] 24)) 1).trans rfl
  have an2 : (w3.alloc (.cells #[.int .i64 p1, .int .i64 p2, .slice Aa p3.length da] 24)).cell? ⟨w.heap.size, 2, none⟩ = some (.slice A l.length c) := (blk_cell (blk_alloc Bn3.out (.cells #[.int .i64 p1, .int .i64 p2, .slice Aa p3.length da] 24)) 2).trans rfl
  go_wp2_with fail
  refine (rinsert_calls i page key HI'.out (Kd.C_below HR.out (below_alloc HB3.out (.cells #[.int .i64 p1, .int .i64 p2, .slice Aa p3.length da] 24))) HC.out).mono ?_
  rintro e w4 ⟨Ab, db, rfl, hdb, hCb, hb⟩
  have Bn4 := Aside0.mk (blk_below (blk_alloc Bn3.out (.cells #[.int .i64 p1, .int .i64 p2, .slice Aa p3.length da] 24)) hb)
  have Ba4 := Aside0.mk (blk_below (blk_new w3 (.cells #[.int .i64 p1, .int .i64 p2, .slice Aa p3.length da] 24)) hb)
  have HB4 := Aside0.mk (below_step (below_alloc HB3.out (.cells #[.int .i64 p1, .int .i64 p2, .slice Aa p3.length da] 24)) hb)
  have HDb := Aside0.mk hdb
  have Cb4 := Aside0.mk hCb
  have Ca4 := Aside0.mk (Kd.C_below (Kd.C_alloc Ca3.out (.cells #[.int .i64 p1, .int .i64 p2, .slice Aa p3.length da] 24)) hb)
  clear hb cn0 cn1 cn2 nn0 nn1 nn2 an0 an1 an2 hdb hCb Bn3 Ca3 HB3
  have cn0 : w4.cell? ⟨w.heap.size, 0, none⟩ = some (.int .i64 f0) := (blk_cell Bn4.out 0).trans rfl
  have cn1 : w4.cell? ⟨w.heap.size, 1, none⟩ = some (.int .i64 f1) := (blk_cell Bn4.out 1).trans rfl
  have cn2 : w4.cell? ⟨w.heap.size, 2, none⟩ = some (.slice A l.length c) := (blk_cell Bn4.out 2).trans rfl
  have nn0 := World.new_ne w4 _ cn0
  have nn1 := World.new_ne w4 _ cn1
  have nn2 := World.new_ne w4 _ cn2
  have an0 : (w4.alloc (.cells #[.int .i64 p1, .int .i64 p2, .slice Ab p3.length db] 24)).cell? ⟨w.heap.size, 0, none⟩ = some (.int .i64 f0) := (blk_cell (blk_alloc Bn4.out (.cells #[.int .i64 p1, .int .i64 p2, .slice Ab p3.length db] 24)) 0).trans rfl
  have an1 : (w4.alloc (.cells #[.int .i64 p1, .int .i64 p2, .slice Ab p3.length db] 24)).cell? ⟨w.heap.size, 1, none⟩ = some (.int .i64 f1) := (blk_cell (blk_alloc Bn4.out (.cells #[.int .i64 p1, .int .i64 p2, .slice Ab p3.length db] 24)) 1).trans rfl
  have an2 : (w4.alloc (.cells #[.int .i64 p1, .int .i64 p2, .slice Ab p3.length db] 24)).cell? ⟨w.heap.size, 2, none⟩ = some (.slice A l.length c) := (blk_cell (blk_alloc Bn4.out (.cells #[.int .i64 p1, .int .i64 p2, .slice Ab p3.length db] 24)) 2).trans rfl
  go_wp2_with fail
  refine (split_calls' HS.out (Kd.C_below HR.out (below_alloc HB4.out (.cells #[.int .i64 p1, .int .i64 p2, .slice Ab p3.length db] 24))) HC.out).mono ?_
  rintro e w5 ⟨Al, Ar, dl, dr, rfl, hdl, hCl, hdr, hCr, hb⟩
  have Bn5 := Aside0.mk (blk_below (blk_alloc Bn4.out (.cells #[.int .i64 p1, .int .i64 p2, .slice Ab p3.length db] 24)) hb)
  have Ba5 := Aside0.mk (blk_below (blk_alloc Ba4.out (.cells #[.int .i64 p1, .int .i64 p2, .slice Ab p3.length db] 24)) hb)
  have Bb5 := Aside0.mk (blk_below (blk_new w4 (.cells #[.int .i64 p1, .int .i64 p2, .slice Ab p3.length db] 24)) hb)
  have HB5 := Aside0.mk (below_step (below_alloc HB4.out (.cells #[.int .i64 p1, .int .i64 p2, .slice Ab p3.length db] 24)) hb)
  have HDl := Aside0.mk hdl
  have HDr := Aside0.mk hdr
  have Cl5 := Aside0.mk hCl
  have Cr5 := Aside0.mk hCr
  have Ca5 := Aside0.mk (Kd.C_below (Kd.C_alloc Ca4.out (.cells #[.int .i64 p1, .int .i64 p2, .slice Ab p3.length db] 24)) hb)
  have Cb5 := Aside0.mk (Kd.C_below (Kd.C_alloc Cb4.out (.cells #[.int .i64 p1, .int .i64 p2, .slice Ab p3.length db] 24)) hb)
  clear hb cn0 cn1 cn2 nn0 nn1 nn2 an0 an1 an2 hdl hCl hdr hCr Bn4 Ba4 Ca4 Cb4 HB4
  have cn0 : w5.cell? ⟨w.heap.size, 0, none⟩ = some (.int .i64 f0) := (blk_cell Bn5.out 0).trans rfl
  have cn1 : w5.cell? ⟨w.heap.size, 1, none⟩ = some (.int .i64 f1) := (blk_cell Bn5.out 1).trans rfl
  have cn2 : w5.cell? ⟨w.heap.size, 2, none⟩ = some (.slice A l.length c) := (blk_cell Bn5.out 2).trans rfl
  have nn0 := World.new_ne w5 _ cn0
  have nn1 := World.new_ne w5 _ cn1
  have nn2 := World.new_ne w5 _ cn2
  have an0 : ((w5.alloc (.cells #[.int .i64 q1, .int .i64 q2, .slice Al q3.length dl] 24)).alloc (.cells #[.int .i64 q4, .int .i64 q5, .slice Ar q6.length dr] 24)).cell? ⟨w.heap.size, 0, none⟩ = some (.int .i64 f0) := (blk_cell (blk_alloc (blk_alloc Bn5.out (.cells #[.int .i64 q1, .int .i64 q2, .slice Al q3.length dl] 24)) (.cells #[.int .i64 q4, .int .i64 q5, .slice Ar q6.length dr] 24)) 0).trans rfl
  have an1 : ((w5.alloc (.cells #[.int .i64 q1, .int .i64 q2, .slice Al q3.length dl] 24)).alloc (.cells #[.int .i64 q4, .int .i64 q5, .slice Ar q6.length dr] 24)).cell? ⟨w.heap.size, 1, none⟩ = some (.int .i64 f1) := (blk_cell (blk_alloc (blk_alloc Bn5.out (.cells #[.int .i64 q1, .int .i64 q2, .slice Al q3.length dl] 24)) (.cells #[.int .i64 q4, .int .i64 q5, .slice Ar q6.length dr] 24)) 1).trans rfl
  have an2 : ((w5.alloc (.cells #[.int .i64 q1, .int .i64 q2, .slice Al q3.length dl] 24)).alloc (.cells #[.int .i64 q4, .int .i64 q5, .slice Ar q6.length dr] 24)).cell? ⟨w.heap.size, 2, none⟩ = some (.slice A l.length c) := (blk_cell (blk_alloc (blk_alloc Bn5.out (.cells #[.int .i64 q1, .int .i64 q2, .slice Al q3.length dl] 24)) (.cells #[.int .i64 q4, .int .i64 q5, .slice Ar q6.length dr] 24)) 2).trans rfl
  have HLT5 := Aside0.mk (show (w5.alloc (.cells #[.int .i64 q1, .int .i64 q2, .slice Al q3.length dl] 24)).heap.size = w5.heap.size + 1 by simp)
  go_wp2_with fail
  refine (rsplit_calls HS'.out (Kd.C_below HR.out (below_alloc (below_alloc HB5.out (.cells #[.int .i64 q1, .int .i64 q2, .slice Al q3.length dl] 24)) (.cells #[.int .i64 q4, .int .i64 q5, .slice Ar q6.length dr] 24))) HC.out).mono ?_
  rintro e w6 ⟨Ax, Ay, dx, dy, rfl, hdx, hCx, hdy, hCy, hb⟩
  have Bn6 := Aside0.mk (blk_below (blk_alloc (blk_alloc Bn5.out (.cells #[.int .i64 q1, .int .i64 q2, .slice Al q3.length dl] 24)) (.cells #[.int .i64 q4, .int .i64 q5, .slice Ar q6.length dr] 24)) hb)
  have Ba6 := Aside0.mk (blk_below (blk_alloc (blk_alloc Ba5.out (.cells #[.int .i64 q1, .int .i64 q2, .slice Al q3.length dl] 24)) (.cells #[.int .i64 q4, .int .i64 q5, .slice Ar q6.length dr] 24)) hb)
  have Bb6 := Aside0.mk (blk_below (blk_alloc (blk_alloc Bb5.out (.cells #[.int .i64 q1, .int .i64 q2, .slice Al q3.length dl] 24)) (.cells #[.int .i64 q4, .int .i64 q5, .slice Ar q6.length dr] 24)) hb)
  have Bl6 := Aside0.mk (blk_below (blk_alloc (blk_new w5 (.cells #[.int .i64 q1, .int .i64 q2, .slice Al q3.length dl] 24)) (.cells #[.int .i64 q4, .int .i64 q5, .slice Ar q6.length dr] 24)) hb)
  have Br6' := blk_below (blk_new (w5.alloc (.cells #[.int .i64 q1, .int .i64 q2, .slice Al q3.length dl] 24)) (.cells #[.int .i64 q4, .int .i64 q5, .slice Ar q6.length dr] 24)) hb
  rw [HLT5.out] at Br6'
  have Br6 := Aside0.mk Br6'
  have HB6 := Aside0.mk (below_step (below_alloc (below_alloc HB5.out (.cells #[.int .i64 q1, .int .i64 q2, .slice Al q3.length dl] 24)) (.cells #[.int .i64 q4, .int .i64 q5, .slice Ar q6.length dr] 24)) hb)
  have HDx := Aside0.mk hdx
  have HDy := Aside0.mk hdy
  have Cx6 := Aside0.mk hCx
  have Cy6 := Aside0.mk hCy
  have Ca6 := Aside0.mk (Kd.C_below (Kd.C_alloc (Kd.C_alloc Ca5.out (.cells #[.int .i64 q1, .int .i64 q2, .slice Al q3.length dl] 24)) (.cells #[.int .i64 q4, .int .i64 q5, .slice Ar q6.length dr] 24)) hb)
  have Cb6 := Aside0.mk (Kd.C_below (Kd.C_alloc (Kd.C_alloc Cb5.out (.cells #[.int .i64 q1, .int .i64 q2, .slice Al q3.length dl] 24)) (.cells #[.int .i64 q4, .int .i64 q5, .slice Ar q6.length dr] 24)) hb)
  have Cl6 := Aside0.mk (Kd.C_below (Kd.C_alloc (Kd.C_alloc Cl5.out (.cells #[.int .i64 q1, .int .i64 q2, .slice Al q3.length dl] 24)) (.cells #[.int .i64 q4, .int .i64 q5, .slice Ar q6.length dr] 24)) hb)
  have Cr6 := Aside0.mk (Kd.C_below (Kd.C_alloc (Kd.C_alloc Cr5.out (.cells #[.int .i64 q1, .int .i64 q2, .slice Al q3.length dl] 24)) (.cells #[.int .i64 q4, .int .i64 q5, .slice Ar q6.length dr] 24)) hb)
  clear hb cn0 cn1 cn2 nn0 nn1 nn2 an0 an1 an2 hdx hCx hdy hCy Bn5 Ba5 Bb5 Br6' Ca5 Cb5 Cl5 Cr5 HB5 HLT5
  go_wp2_with fail
  have HLT6 := Aside0.mk (show (w6.alloc (.cells #[.int .i64 q1, .int .i64 q2, .slice Ax q3.length dx] 24)).heap.size = w6.heap.size + 1 by simp)
  have By' := blk_new (w6.alloc (.cells #[.int .i64 q1, .int .i64 q2, .slice Ax q3.length dx] 24)) (.cells #[.int .i64 q4, .int .i64 q5, .slice Ay q6.length dy] 24)
  rw [HLT6.out] at By'
  have Bx' := blk_alloc (blk_new w6 (.cells #[.int .i64 q1, .int .i64 q2, .slice Ax q3.length dx] 24)) (.cells #[.int .i64 q4, .int .i64 q5, .slice Ay q6.length dy] 24)
  have Bn' := blk_alloc (blk_alloc Bn6.out (.cells #[.int .i64 q1, .int .i64 q2, .slice Ax q3.length dx] 24)) (.cells #[.int .i64 q4, .int .i64 q5, .slice Ay q6.length dy] 24)
  have Ba' := blk_alloc (blk_alloc Ba6.out (.cells #[.int .i64 q1, .int .i64 q2, .slice Ax q3.length dx] 24)) (.cells #[.int .i64 q4, .int .i64 q5, .slice Ay q6.length dy] 24)
  have Bb' := blk_alloc (blk_alloc Bb6.out (.cells #[.int .i64 q1, .int .i64 q2, .slice Ax q3.length dx] 24)) (.cells #[.int .i64 q4, .int .i64 q5, .slice Ay q6.length dy] 24)
  have Bl' := blk_alloc (blk_alloc Bl6.out (.cells #[.int .i64 q1, .int .i64 q2, .slice Ax q3.length dx] 24)) (.cells #[.int .i64 q4, .int .i64 q5, .slice Ay q6.length dy] 24)
  have Br' := blk_alloc (blk_alloc Br6.out (.cells #[.int .i64 q1, .int .i64 q2, .slice Ax q3.length dx] 24)) (.cells #[.int .i64 q4, .int .i64 q5, .slice Ay q6.length dy] 24)
  have Ca' := Kd.C_alloc (Kd.C_alloc Ca6.out (.cells #[.int .i64 q1, .int .i64 q2, .slice Ax q3.length dx] 24)) (.cells #[.int .i64 q4, .int .i64 q5, .slice Ay q6.length dy] 24)
  have Cb' := Kd.C_alloc (Kd.C_alloc Cb6.out (.cells #[.int .i64 q1, .int .i64 q2, .slice Ax q3.length dx] 24)) (.cells #[.int .i64 q4, .int .i64 q5, .slice Ay q6.length dy] 24)
  have Cx' := Kd.C_alloc (Kd.C_alloc Cx6.out (.cells #[.int .i64 q1, .int .i64 q2, .slice Ax q3.length dx] 24)) (.cells #[.int .i64 q4, .int .i64 q5, .slice Ay q6.length dy] 24)
  have Cy' := Kd.C_alloc (Kd.C_alloc Cy6.out (.cells #[.int .i64 q1, .int .i64 q2, .slice Ax q3.length dx] 24)) (.cells #[.int .i64 q4, .int .i64 q5, .slice Ay q6.length dy] 24)
  have Cl' := Kd.C_alloc (Kd.C_alloc Cl6.out (.cells #[.int .i64 q1, .int .i64 q2, .slice Ax q3.length dx] 24)) (.cells #[.int .i64 q4, .int .i64 q5, .slice Ay q6.length dy] 24)
  have Cr' := Kd.C_alloc (Kd.C_alloc Cr6.out (.cells #[.int .i64 q1, .int .i64 q2, .slice Ax q3.length dx] 24)) (.cells #[.int .i64 q4, .int .i64 q5, .slice Ay q6.length dy] 24)
  have HB' := below_alloc (below_alloc HB6.out (.cells #[.int .i64 q1, .int .i64 q2, .slice Ax q3.length dx] 24)) (.cells #[.int .i64 q4, .int .i64 q5, .slice Ay q6.length dy] 24)
  have Cn' := Kd.C_below HR.out HB'
  clear Bn6 Ba6 Bb6 Bl6 Br6 Ca6 Cb6 Cl6 Cr6 Cx6 Cy6 HB6 HLT6
  generalize (w6.alloc (.cells #[.int .i64 q1, .int .i64 q2, .slice Ax q3.length dx] 24)).alloc (.cells #[.int .i64 q4, .int .i64 q5, .slice Ay q6.length dy] 24) = w7 at Bn' Ba' Bb' Bx' By' Bl' Br' Cn' Ca' Cb' Cx' Cy' Cl' Cr' HB' ⊢
  have Bn := Aside0.mk (blk_drew Bn')
  have Ba := Aside0.mk (blk_drew Ba')
  have Bb := Aside0.mk (blk_drew Bb')
  have Bx := Aside0.mk (blk_drew Bx')
  have By := Aside0.mk (blk_drew By')
  have Bl := Aside0.mk (blk_drew Bl')
  have Br := Aside0.mk (blk_drew Br')
  have Cn := Aside0.mk (Kd.C_drew Cn')
  have Ca := Aside0.mk (Kd.C_drew Ca')
  have Cb := Aside0.mk (Kd.C_drew Cb')
  have Cx := Aside0.mk (Kd.C_drew Cx')
  have Cy := Aside0.mk (Kd.C_drew Cy')
  have Cl := Aside0.mk (Kd.C_drew Cl')
  have Cr := Aside0.mk (Kd.C_drew Cr')
  have HB := Aside0.mk (below_drew HB')
  clear Bn' Cn' Ba' Ca' Bb' Cb' Bx' Cx' By' Cy' Bl' Cl' Br' Cr' HB'
  have hS : w7.cell? ⟨w.heap.size, 0, none⟩ = some (.int .i64 f0) ∧ w7.cell? ⟨w.heap.size, 1, none⟩ = some (.int .i64 f1) ∧ w7.cell? ⟨w.heap.size, 2, none⟩ = some (.slice A l.length c) ∧ w7.cell? ⟨w3.heap.size, 0, none⟩ = some (.int .i64 p1) ∧ w7.cell? ⟨w3.heap.size, 1, none⟩ = some (.int .i64 p2) ∧ w7.cell? ⟨w3.heap.size, 2, none⟩ = some (.slice Aa p3.length da) ∧ w7.cell? ⟨w4.heap.size, 0, none⟩ = some (.int .i64 p1) ∧ w7.cell? ⟨w4.heap.size, 1, none⟩ = some (.int .i64 p2) ∧ w7.cell? ⟨w4.heap.size, 2, none⟩ = some (.slice Ab p3.length db) ∧ w7.cell? ⟨w5.heap.size, 0, none⟩ = some (.int .i64 q1) ∧ w7.cell? ⟨w5.heap.size, 1, none⟩ = some (.int .i64 q2) ∧ w7.cell? ⟨w5.heap.size, 2, none⟩ = some (.slice Al q3.length dl) ∧ w7.cell? ⟨w5.heap.size + 1, 0, none⟩ = some (.int .i64 q4) ∧ w7.cell? ⟨w5.heap.size + 1, 1, none⟩ = some (.int .i64 q5) ∧ w7.cell? ⟨w5.heap.size + 1, 2, none⟩ = some (.slice Ar q6.length dr) ∧ w7.cell? ⟨w6.heap.size, 0, none⟩ = some (.int .i64 q1) ∧ w7.cell? ⟨w6.heap.size, 1, none⟩ = some (.int .i64 q2) ∧ w7.cell? ⟨w6.heap.size, 2, none⟩ = some (.slice Ax q3.length dx) ∧ w7.cell? ⟨w6.heap.size + 1, 0, none⟩ = some (.int .i64 q4) ∧ w7.cell? ⟨w6.heap.size + 1, 1, none⟩ = some (.int .i64 q5) ∧ w7.cell? ⟨w6.heap.size + 1, 2, none⟩ = some (.slice Ay q6.length dy) := ⟨(blk_cell Bn.out 0).trans rfl, (blk_cell Bn.out 1).trans rfl, (blk_cell Bn.out 2).trans rfl, (blk_cell Ba.out 0).trans rfl, (blk_cell Ba.out 1).trans rfl, (blk_cell Ba.out 2).trans rfl, (blk_cell Bb.out 0).trans rfl, (blk_cell Bb.out 1).trans rfl, (blk_cell Bb.out 2).trans rfl, (blk_cell Bl.out 0).trans rfl, (blk_cell Bl.out 1).trans rfl, (blk_cell Bl.out 2).trans rfl, (blk_cell Br.out 0).trans rfl, (blk_cell Br.out 1).trans rfl, (blk_cell Br.out 2).trans rfl, (blk_cell Bx.out 0).trans rfl, (blk_cell Bx.out 1).trans rfl, (blk_cell Bx.out 2).trans rfl, (blk_cell By.out 0).trans rfl, (blk_cell By.out 1).trans rfl, (blk_cell By.out 2).trans rfl⟩
  go_region_held3 (fun w' => w'.cell? ⟨w.heap.size, 0, none⟩ = some (.int .i64 f0) ∧ w'.cell? ⟨w.heap.size, 1, none⟩ = some (.int .i64 f1) ∧ w'.cell? ⟨w.heap.size, 2, none⟩ = some (.slice A l.length c) ∧ w'.cell? ⟨w3.heap.size, 0, none⟩ = some (.int .i64 p1) ∧ w'.cell? ⟨w3.heap.size, 1, none⟩ = some (.int .i64 p2) ∧ w'.cell? ⟨w3.heap.size, 2, none⟩ = some (.slice Aa p3.length da) ∧ w'.cell? ⟨w4.heap.size, 0, none⟩ = some (.int .i64 p1) ∧ w'.cell? ⟨w4.heap.size, 1, none⟩ = some (.int .i64 p2) ∧ w'.cell? ⟨w4.heap.size, 2, none⟩ = some (.slice Ab p3.length db) ∧ w'.cell? ⟨w5.heap.size, 0, none⟩ = some (.int .i64 q1) ∧ w'.cell? ⟨w5.heap.size, 1, none⟩ = some (.int .i64 q2) ∧ w'.cell? ⟨w5.heap.size, 2, none⟩ = some (.slice Al q3.length dl) ∧ w'.cell? ⟨w5.heap.size + 1, 0, none⟩ = some (.int .i64 q4) ∧ w'.cell? ⟨w5.heap.size + 1, 1, none⟩ = some (.int .i64 q5) ∧ w'.cell? ⟨w5.heap.size + 1, 2, none⟩ = some (.slice Ar q6.length dr) ∧ w'.cell? ⟨w6.heap.size, 0, none⟩ = some (.int .i64 q1) ∧ w'.cell? ⟨w6.heap.size, 1, none⟩ = some (.int .i64 q2) ∧ w'.cell? ⟨w6.heap.size, 2, none⟩ = some (.slice Ax q3.length dx) ∧ w'.cell? ⟨w6.heap.size + 1, 0, none⟩ = some (.int .i64 q4) ∧ w'.cell? ⟨w6.heap.size + 1, 1, none⟩ = some (.int .i64 q5) ∧ w'.cell? ⟨w6.heap.size + 1, 2, none⟩ = some (.slice Ay q6.length dy)) (first | assumption | go_keep) (first
    | ((with_reducible refine (find_calls key Cn.out HC.out).mono ?_); rintro e w8 ⟨rfl, hb⟩; have n1_ := Aside0.mk (blk_below Bn.out hb); clear Bn; have Bn := n1_; clear n1_; have n1_ := Aside0.mk (blk_below Ba.out hb); clear Ba; have Ba := n1_; clear n1_; have n1_ := Aside0.mk (blk_below Bb.out hb); clear Bb; have Bb := n1_; clear n1_; have n1_ := Aside0.mk (blk_below Bx.out hb); clear Bx; have Bx := n1_; clear n1_; have n1_ := Aside0.mk (blk_below By.out hb); clear By; have By := n1_; clear n1_; have n1_ := Aside0.mk (blk_below Bl.out hb); clear Bl; have Bl := n1_; clear n1_; have n1_ := Aside0.mk (blk_below Br.out hb); clear Br; have Br := n1_; clear n1_; have n1_ := Aside0.mk (Kd.C_below Cn.out hb); clear Cn; have Cn := n1_; clear n1_; have n1_ := Aside0.mk (Kd.C_below Ca.out hb); clear Ca; have Ca := n1_; clear n1_; have n1_ := Aside0.mk (Kd.C_below Cb.out hb); clear Cb; have Cb := n1_; clear n1_; have n1_ := Aside0.mk (Kd.C_below Cx.out hb); clear Cx; have Cx := n1_; clear n1_; have n1_ := Aside0.mk (Kd.C_below Cy.out hb); clear Cy; have Cy := n1_; clear n1_; have n1_ := Aside0.mk (Kd.C_below Cl.out hb); clear Cl; have Cl := n1_; clear n1_; have n1_ := Aside0.mk (Kd.C_below Cr.out hb); clear Cr; have Cr := n1_; clear n1_; have n1_ := Aside0.mk (below_step HB.out hb); clear HB; have HB := n1_; clear n1_; clear hb hS; have hS : w8.cell? ⟨w.heap.size, 0, none⟩ = some (.int .i64 f0) ∧ w8.cell? ⟨w.heap.size, 1, none⟩ = some (.int .i64 f1) ∧ w8.cell? ⟨w.heap.size, 2, none⟩ = some (.slice A l.length c) ∧ w8.cell? ⟨w3.heap.size, 0, none⟩ = some (.int .i64 p1) ∧ w8.cell? ⟨w3.heap.size, 1, none⟩ = some (.int .i64 p2) ∧ w8.cell? ⟨w3.heap.size, 2, none⟩ = some (.slice Aa p3.length da) ∧ w8.cell? ⟨w4.heap.size, 0, none⟩ = some (.int .i64 p1) ∧ w8.cell? ⟨w4.heap.size, 1, none⟩ = some (.int .i64 p2) ∧ w8.cell? ⟨w4.heap.size, 2, none⟩ = some (.slice Ab p3.length db) ∧ w8.cell? ⟨w5.heap.size, 0, none⟩ = some (.int .i64 q1) ∧ w8.cell? ⟨w5.heap.size, 1, none⟩ = some (.int .i64 q2) ∧ w8.cell? ⟨w5.heap.size, 2, none⟩ = some (.slice Al q3.length dl) ∧ w8.cell? ⟨w5.heap.size + 1, 0, none⟩ = some (.int .i64 q4) ∧ w8.cell? ⟨w5.heap.size + 1, 1, none⟩ = some (.int .i64 q5) ∧ w8.cell? ⟨w5.heap.size + 1, 2, none⟩ = some (.slice Ar q6.length dr) ∧ w8.cell? ⟨w6.heap.size, 0, none⟩ = some (.int .i64 q1) ∧ w8.cell? ⟨w6.heap.size, 1, none⟩ = some (.int .i64 q2) ∧ w8.cell? ⟨w6.heap.size, 2, none⟩ = some (.slice Ax q3.length dx) ∧ w8.cell? ⟨w6.heap.size + 1, 0, none⟩ = some (.int .i64 q4) ∧ w8.cell? ⟨w6.heap.size + 1, 1, none⟩ = some (.int .i64 q5) ∧ w8.cell? ⟨w6.heap.size + 1, 2, none⟩ = some (.slice Ay q6.length dy) := ⟨(blk_cell Bn.out 0).trans rfl, (blk_cell Bn.out 1).trans rfl, (blk_cell Bn.out 2).trans rfl, (blk_cell Ba.out 0).trans rfl, (blk_cell Ba.out 1).trans rfl, (blk_cell Ba.out 2).trans rfl, (blk_cell Bb.out 0).trans rfl, (blk_cell Bb.out 1).trans rfl, (blk_cell Bb.out 2).trans rfl, (blk_cell Bl.out 0).trans rfl, (blk_cell Bl.out 1).trans rfl, (blk_cell Bl.out 2).trans rfl, (blk_cell Br.out 0).trans rfl, (blk_cell Br.out 1).trans rfl, (blk_cell Br.out 2).trans rfl, (blk_cell Bx.out 0).trans rfl, (blk_cell Bx.out 1).trans rfl, (blk_cell Bx.out 2).trans rfl, (blk_cell By.out 0).trans rfl, (blk_cell By.out 1).trans rfl, (blk_cell By.out 2).trans rfl⟩)
    | ((with_reducible refine (rfind_calls key Cn.out HC.out).mono ?_); rintro e w8 ⟨rfl, hb⟩; have n1_ := Aside0.mk (blk_below Bn.out hb); clear Bn; have Bn := n1_; clear n1_; have n1_ := Aside0.mk (blk_below Ba.out hb); clear Ba; have Ba := n1_; clear n1_; have n1_ := Aside0.mk (blk_below Bb.out hb); clear Bb; have Bb := n1_; clear n1_; have n1_ := Aside0.mk (blk_below Bx.out hb); clear Bx; have Bx := n1_; clear n1_; have n1_ := Aside0.mk (blk_below By.out hb); clear By; have By := n1_; clear n1_; have n1_ := Aside0.mk (blk_below Bl.out hb); clear Bl; have Bl := n1_; clear n1_; have n1_ := Aside0.mk (blk_below Br.out hb); clear Br; have Br := n1_; clear n1_; have n1_ := Aside0.mk (Kd.C_below Cn.out hb); clear Cn; have Cn := n1_; clear n1_; have n1_ := Aside0.mk (Kd.C_below Ca.out hb); clear Ca; have Ca := n1_; clear n1_; have n1_ := Aside0.mk (Kd.C_below Cb.out hb); clear Cb; have Cb := n1_; clear n1_; have n1_ := Aside0.mk (Kd.C_below Cx.out hb); clear Cx; have Cx := n1_; clear n1_; have n1_ := Aside0.mk (Kd.C_below Cy.out hb); clear Cy; have Cy := n1_; clear n1_; have n1_ := Aside0.mk (Kd.C_below Cl.out hb); clear Cl; have Cl := n1_; clear n1_; have n1_ := Aside0.mk (Kd.C_below Cr.out hb); clear Cr; have Cr := n1_; clear n1_; have n1_ := Aside0.mk (below_step HB.out hb); clear HB; have HB := n1_; clear n1_; clear hb hS; have hS : w8.cell? ⟨w.heap.size, 0, none⟩ = some (.int .i64 f0) ∧ w8.cell? ⟨w.heap.size, 1, none⟩ = some (.int .i64 f1) ∧ w8.cell? ⟨w.heap.size, 2, none⟩ = some (.slice A l.length c) ∧ w8.cell? ⟨w3.heap.size, 0, none⟩ = some (.int .i64 p1) ∧ w8.cell? ⟨w3.heap.size, 1, none⟩ = some (.int .i64 p2) ∧ w8.cell? ⟨w3.heap.size, 2, none⟩ = some (.slice Aa p3.length da) ∧ w8.cell? ⟨w4.heap.size, 0, none⟩ = some (.int .i64 p1) ∧ w8.cell? ⟨w4.heap.size, 1, none⟩ = some (.int .i64 p2) ∧ w8.cell? ⟨w4.heap.size, 2, none⟩ = some (.slice Ab p3.length db) ∧ w8.cell? ⟨w5.heap.size, 0, none⟩ = some (.int .i64 q1) ∧ w8.cell? ⟨w5.heap.size, 1, none⟩ = some (.int .i64 q2) ∧ w8.cell? ⟨w5.heap.size, 2, none⟩ = some (.slice Al q3.length dl) ∧ w8.cell? ⟨w5.heap.size + 1, 0, none⟩ = some (.int .i64 q4) ∧ w8.cell? ⟨w5.heap.size + 1, 1, none⟩ = some (.int .i64 q5) ∧ w8.cell? ⟨w5.heap.size + 1, 2, none⟩ = some (.slice Ar q6.length dr) ∧ w8.cell? ⟨w6.heap.size, 0, none⟩ = some (.int .i64 q1) ∧ w8.cell? ⟨w6.heap.size, 1, none⟩ = some (.int .i64 q2) ∧ w8.cell? ⟨w6.heap.size, 2, none⟩ = some (.slice Ax q3.length dx) ∧ w8.cell? ⟨w6.heap.size + 1, 0, none⟩ = some (.int .i64 q4) ∧ w8.cell? ⟨w6.heap.size + 1, 1, none⟩ = some (.int .i64 q5) ∧ w8.cell? ⟨w6.heap.size + 1, 2, none⟩ = some (.slice Ay q6.length dy) := ⟨(blk_cell Bn.out 0).trans rfl, (blk_cell Bn.out 1).trans rfl, (blk_cell Bn.out 2).trans rfl, (blk_cell Ba.out 0).trans rfl, (blk_cell Ba.out 1).trans rfl, (blk_cell Ba.out 2).trans rfl, (blk_cell Bb.out 0).trans rfl, (blk_cell Bb.out 1).trans rfl, (blk_cell Bb.out 2).trans rfl, (blk_cell Bl.out 0).trans rfl, (blk_cell Bl.out 1).trans rfl, (blk_cell Bl.out 2).trans rfl, (blk_cell Br.out 0).trans rfl, (blk_cell Br.out 1).trans rfl, (blk_cell Br.out 2).trans rfl, (blk_cell Bx.out 0).trans rfl, (blk_cell Bx.out 1).trans rfl, (blk_cell Bx.out 2).trans rfl, (blk_cell By.out 0).trans rfl, (blk_cell By.out 1).trans rfl, (blk_cell By.out 2).trans rfl⟩)
    | ((with_reducible refine (same_calls Ca.out HDa.out Cb.out HDb.out).mono ?_); rintro e w8 ⟨rfl, hb⟩; have n1_ := Aside0.mk (blk_below Bn.out hb); clear Bn; have Bn := n1_; clear n1_; have n1_ := Aside0.mk (blk_below Ba.out hb); clear Ba; have Ba := n1_; clear n1_; have n1_ := Aside0.mk (blk_below Bb.out hb); clear Bb; have Bb := n1_; clear n1_; have n1_ := Aside0.mk (blk_below Bx.out hb); clear Bx; have Bx := n1_; clear n1_; have n1_ := Aside0.mk (blk_below By.out hb); clear By; have By := n1_; clear n1_; have n1_ := Aside0.mk (blk_below Bl.out hb); clear Bl; have Bl := n1_; clear n1_; have n1_ := Aside0.mk (blk_below Br.out hb); clear Br; have Br := n1_; clear n1_; have n1_ := Aside0.mk (Kd.C_below Cn.out hb); clear Cn; have Cn := n1_; clear n1_; have n1_ := Aside0.mk (Kd.C_below Ca.out hb); clear Ca; have Ca := n1_; clear n1_; have n1_ := Aside0.mk (Kd.C_below Cb.out hb); clear Cb; have Cb := n1_; clear n1_; have n1_ := Aside0.mk (Kd.C_below Cx.out hb); clear Cx; have Cx := n1_; clear n1_; have n1_ := Aside0.mk (Kd.C_below Cy.out hb); clear Cy; have Cy := n1_; clear n1_; have n1_ := Aside0.mk (Kd.C_below Cl.out hb); clear Cl; have Cl := n1_; clear n1_; have n1_ := Aside0.mk (Kd.C_below Cr.out hb); clear Cr; have Cr := n1_; clear n1_; have n1_ := Aside0.mk (below_step HB.out hb); clear HB; have HB := n1_; clear n1_; clear hb hS; have hS : w8.cell? ⟨w.heap.size, 0, none⟩ = some (.int .i64 f0) ∧ w8.cell? ⟨w.heap.size, 1, none⟩ = some (.int .i64 f1) ∧ w8.cell? ⟨w.heap.size, 2, none⟩ = some (.slice A l.length c) ∧ w8.cell? ⟨w3.heap.size, 0, none⟩ = some (.int .i64 p1) ∧ w8.cell? ⟨w3.heap.size, 1, none⟩ = some (.int .i64 p2) ∧ w8.cell? ⟨w3.heap.size, 2, none⟩ = some (.slice Aa p3.length da) ∧ w8.cell? ⟨w4.heap.size, 0, none⟩ = some (.int .i64 p1) ∧ w8.cell? ⟨w4.heap.size, 1, none⟩ = some (.int .i64 p2) ∧ w8.cell? ⟨w4.heap.size, 2, none⟩ = some (.slice Ab p3.length db) ∧ w8.cell? ⟨w5.heap.size, 0, none⟩ = some (.int .i64 q1) ∧ w8.cell? ⟨w5.heap.size, 1, none⟩ = some (.int .i64 q2) ∧ w8.cell? ⟨w5.heap.size, 2, none⟩ = some (.slice Al q3.length dl) ∧ w8.cell? ⟨w5.heap.size + 1, 0, none⟩ = some (.int .i64 q4) ∧ w8.cell? ⟨w5.heap.size + 1, 1, none⟩ = some (.int .i64 q5) ∧ w8.cell? ⟨w5.heap.size + 1, 2, none⟩ = some (.slice Ar q6.length dr) ∧ w8.cell? ⟨w6.heap.size, 0, none⟩ = some (.int .i64 q1) ∧ w8.cell? ⟨w6.heap.size, 1, none⟩ = some (.int .i64 q2) ∧ w8.cell? ⟨w6.heap.size, 2, none⟩ = some (.slice Ax q3.length dx) ∧ w8.cell? ⟨w6.heap.size + 1, 0, none⟩ = some (.int .i64 q4) ∧ w8.cell? ⟨w6.heap.size + 1, 1, none⟩ = some (.int .i64 q5) ∧ w8.cell? ⟨w6.heap.size + 1, 2, none⟩ = some (.slice Ay q6.length dy) := ⟨(blk_cell Bn.out 0).trans rfl, (blk_cell Bn.out 1).trans rfl, (blk_cell Bn.out 2).trans rfl, (blk_cell Ba.out 0).trans rfl, (blk_cell Ba.out 1).trans rfl, (blk_cell Ba.out 2).trans rfl, (blk_cell Bb.out 0).trans rfl, (blk_cell Bb.out 1).trans rfl, (blk_cell Bb.out 2).trans rfl, (blk_cell Bl.out 0).trans rfl, (blk_cell Bl.out 1).trans rfl, (blk_cell Bl.out 2).trans rfl, (blk_cell Br.out 0).trans rfl, (blk_cell Br.out 1).trans rfl, (blk_cell Br.out 2).trans rfl, (blk_cell Bx.out 0).trans rfl, (blk_cell Bx.out 1).trans rfl, (blk_cell Bx.out 2).trans rfl, (blk_cell By.out 0).trans rfl, (blk_cell By.out 1).trans rfl, (blk_cell By.out 2).trans rfl⟩)
    | ((with_reducible refine (same_calls Cl.out HDl.out Cx.out HDx.out).mono ?_); rintro e w8 ⟨rfl, hb⟩; have n1_ := Aside0.mk (blk_below Bn.out hb); clear Bn; have Bn := n1_; clear n1_; have n1_ := Aside0.mk (blk_below Ba.out hb); clear Ba; have Ba := n1_; clear n1_; have n1_ := Aside0.mk (blk_below Bb.out hb); clear Bb; have Bb := n1_; clear n1_; have n1_ := Aside0.mk (blk_below Bx.out hb); clear Bx; have Bx := n1_; clear n1_; have n1_ := Aside0.mk (blk_below By.out hb); clear By; have By := n1_; clear n1_; have n1_ := Aside0.mk (blk_below Bl.out hb); clear Bl; have Bl := n1_; clear n1_; have n1_ := Aside0.mk (blk_below Br.out hb); clear Br; have Br := n1_; clear n1_; have n1_ := Aside0.mk (Kd.C_below Cn.out hb); clear Cn; have Cn := n1_; clear n1_; have n1_ := Aside0.mk (Kd.C_below Ca.out hb); clear Ca; have Ca := n1_; clear n1_; have n1_ := Aside0.mk (Kd.C_below Cb.out hb); clear Cb; have Cb := n1_; clear n1_; have n1_ := Aside0.mk (Kd.C_below Cx.out hb); clear Cx; have Cx := n1_; clear n1_; have n1_ := Aside0.mk (Kd.C_below Cy.out hb); clear Cy; have Cy := n1_; clear n1_; have n1_ := Aside0.mk (Kd.C_below Cl.out hb); clear Cl; have Cl := n1_; clear n1_; have n1_ := Aside0.mk (Kd.C_below Cr.out hb); clear Cr; have Cr := n1_; clear n1_; have n1_ := Aside0.mk (below_step HB.out hb); clear HB; have HB := n1_; clear n1_; clear hb hS; have hS : w8.cell? ⟨w.heap.size, 0, none⟩ = some (.int .i64 f0) ∧ w8.cell? ⟨w.heap.size, 1, none⟩ = some (.int .i64 f1) ∧ w8.cell? ⟨w.heap.size, 2, none⟩ = some (.slice A l.length c) ∧ w8.cell? ⟨w3.heap.size, 0, none⟩ = some (.int .i64 p1) ∧ w8.cell? ⟨w3.heap.size, 1, none⟩ = some (.int .i64 p2) ∧ w8.cell? ⟨w3.heap.size, 2, none⟩ = some (.slice Aa p3.length da) ∧ w8.cell? ⟨w4.heap.size, 0, none⟩ = some (.int .i64 p1) ∧ w8.cell? ⟨w4.heap.size, 1, none⟩ = some (.int .i64 p2) ∧ w8.cell? ⟨w4.heap.size, 2, none⟩ = some (.slice Ab p3.length db) ∧ w8.cell? ⟨w5.heap.size, 0, none⟩ = some (.int .i64 q1) ∧ w8.cell? ⟨w5.heap.size, 1, none⟩ = some (.int .i64 q2) ∧ w8.cell? ⟨w5.heap.size, 2, none⟩ = some (.slice Al q3.length dl) ∧ w8.cell? ⟨w5.heap.size + 1, 0, none⟩ = some (.int .i64 q4) ∧ w8.cell? ⟨w5.heap.size + 1, 1, none⟩ = some (.int .i64 q5) ∧ w8.cell? ⟨w5.heap.size + 1, 2, none⟩ = some (.slice Ar q6.length dr) ∧ w8.cell? ⟨w6.heap.size, 0, none⟩ = some (.int .i64 q1) ∧ w8.cell? ⟨w6.heap.size, 1, none⟩ = some (.int .i64 q2) ∧ w8.cell? ⟨w6.heap.size, 2, none⟩ = some (.slice Ax q3.length dx) ∧ w8.cell? ⟨w6.heap.size + 1, 0, none⟩ = some (.int .i64 q4) ∧ w8.cell? ⟨w6.heap.size + 1, 1, none⟩ = some (.int .i64 q5) ∧ w8.cell? ⟨w6.heap.size + 1, 2, none⟩ = some (.slice Ay q6.length dy) := ⟨(blk_cell Bn.out 0).trans rfl, (blk_cell Bn.out 1).trans rfl, (blk_cell Bn.out 2).trans rfl, (blk_cell Ba.out 0).trans rfl, (blk_cell Ba.out 1).trans rfl, (blk_cell Ba.out 2).trans rfl, (blk_cell Bb.out 0).trans rfl, (blk_cell Bb.out 1).trans rfl, (blk_cell Bb.out 2).trans rfl, (blk_cell Bl.out 0).trans rfl, (blk_cell Bl.out 1).trans rfl, (blk_cell Bl.out 2).trans rfl, (blk_cell Br.out 0).trans rfl, (blk_cell Br.out 1).trans rfl, (blk_cell Br.out 2).trans rfl, (blk_cell Bx.out 0).trans rfl, (blk_cell Bx.out 1).trans rfl, (blk_cell Bx.out 2).trans rfl, (blk_cell By.out 0).trans rfl, (blk_cell By.out 1).trans rfl, (blk_cell By.out 2).trans rfl⟩)
    | ((with_reducible refine (same_calls Cr.out HDr.out Cy.out HDy.out).mono ?_); rintro e w8 ⟨rfl, hb⟩; have n1_ := Aside0.mk (blk_below Bn.out hb); clear Bn; have Bn := n1_; clear n1_; have n1_ := Aside0.mk (blk_below Ba.out hb); clear Ba; have Ba := n1_; clear n1_; have n1_ := Aside0.mk (blk_below Bb.out hb); clear Bb; have Bb := n1_; clear n1_; have n1_ := Aside0.mk (blk_below Bx.out hb); clear Bx; have Bx := n1_; clear n1_; have n1_ := Aside0.mk (blk_below By.out hb); clear By; have By := n1_; clear n1_; have n1_ := Aside0.mk (blk_below Bl.out hb); clear Bl; have Bl := n1_; clear n1_; have n1_ := Aside0.mk (blk_below Br.out hb); clear Br; have Br := n1_; clear n1_; have n1_ := Aside0.mk (Kd.C_below Cn.out hb); clear Cn; have Cn := n1_; clear n1_; have n1_ := Aside0.mk (Kd.C_below Ca.out hb); clear Ca; have Ca := n1_; clear n1_; have n1_ := Aside0.mk (Kd.C_below Cb.out hb); clear Cb; have Cb := n1_; clear n1_; have n1_ := Aside0.mk (Kd.C_below Cx.out hb); clear Cx; have Cx := n1_; clear n1_; have n1_ := Aside0.mk (Kd.C_below Cy.out hb); clear Cy; have Cy := n1_; clear n1_; have n1_ := Aside0.mk (Kd.C_below Cl.out hb); clear Cl; have Cl := n1_; clear n1_; have n1_ := Aside0.mk (Kd.C_below Cr.out hb); clear Cr; have Cr := n1_; clear n1_; have n1_ := Aside0.mk (below_step HB.out hb); clear HB; have HB := n1_; clear n1_; clear hb hS; have hS : w8.cell? ⟨w.heap.size, 0, none⟩ = some (.int .i64 f0) ∧ w8.cell? ⟨w.heap.size, 1, none⟩ = some (.int .i64 f1) ∧ w8.cell? ⟨w.heap.size, 2, none⟩ = some (.slice A l.length c) ∧ w8.cell? ⟨w3.heap.size, 0, none⟩ = some (.int .i64 p1) ∧ w8.cell? ⟨w3.heap.size, 1, none⟩ = some (.int .i64 p2) ∧ w8.cell? ⟨w3.heap.size, 2, none⟩ = some (.slice Aa p3.length da) ∧ w8.cell? ⟨w4.heap.size, 0, none⟩ = some (.int .i64 p1) ∧ w8.cell? ⟨w4.heap.size, 1, none⟩ = some (.int .i64 p2) ∧ w8.cell? ⟨w4.heap.size, 2, none⟩ = some (.slice Ab p3.length db) ∧ w8.cell? ⟨w5.heap.size, 0, none⟩ = some (.int .i64 q1) ∧ w8.cell? ⟨w5.heap.size, 1, none⟩ = some (.int .i64 q2) ∧ w8.cell? ⟨w5.heap.size, 2, none⟩ = some (.slice Al q3.length dl) ∧ w8.cell? ⟨w5.heap.size + 1, 0, none⟩ = some (.int .i64 q4) ∧ w8.cell? ⟨w5.heap.size + 1, 1, none⟩ = some (.int .i64 q5) ∧ w8.cell? ⟨w5.heap.size + 1, 2, none⟩ = some (.slice Ar q6.length dr) ∧ w8.cell? ⟨w6.heap.size, 0, none⟩ = some (.int .i64 q1) ∧ w8.cell? ⟨w6.heap.size, 1, none⟩ = some (.int .i64 q2) ∧ w8.cell? ⟨w6.heap.size, 2, none⟩ = some (.slice Ax q3.length dx) ∧ w8.cell? ⟨w6.heap.size + 1, 0, none⟩ = some (.int .i64 q4) ∧ w8.cell? ⟨w6.heap.size + 1, 1, none⟩ = some (.int .i64 q5) ∧ w8.cell? ⟨w6.heap.size + 1, 2, none⟩ = some (.slice Ay q6.length dy) := ⟨(blk_cell Bn.out 0).trans rfl, (blk_cell Bn.out 1).trans rfl, (blk_cell Bn.out 2).trans rfl, (blk_cell Ba.out 0).trans rfl, (blk_cell Ba.out 1).trans rfl, (blk_cell Ba.out 2).trans rfl, (blk_cell Bb.out 0).trans rfl, (blk_cell Bb.out 1).trans rfl, (blk_cell Bb.out 2).trans rfl, (blk_cell Bl.out 0).trans rfl, (blk_cell Bl.out 1).trans rfl, (blk_cell Bl.out 2).trans rfl, (blk_cell Br.out 0).trans rfl, (blk_cell Br.out 1).trans rfl, (blk_cell Br.out 2).trans rfl, (blk_cell Bx.out 0).trans rfl, (blk_cell Bx.out 1).trans rfl, (blk_cell Bx.out 2).trans rfl, (blk_cell By.out 0).trans rfl, (blk_cell By.out 1).trans rfl, (blk_cell By.out 2).trans rfl⟩))
  go_wp2
  go_ret
  exact ⟨rfl, HB.out⟩
/-- Whatever the arguments: it answers true. -/
theorem changes_calls (f0 f1 : Int) (A : Option Addr) (c : Nat) (l : List S32) (key : ByteArray) (i page : Int) (w : World) (hr : Kd.C k32 w A l.length l) (hc : l.length ≤ c) :
    Calls Try.prog 4 #[.agg #[.int .i64 f0, .int .i64 f1, .slice A l.length c], .string key, .int .i64 i, .int .i64 page] w fun e w' => e = .returned (.bool true) ∧ Below w.heap.size w w' := by
  obtain ⟨t, ht, _⟩ := few_true f0 f1 l hr.2.1
  obtain ⟨k, hk⟩ := Ev.rounds ht
  cases t with
  | false => exact ch_few f0 f1 A c l key i page w hr hc k false hk rfl
  | true =>
    by_cases hl : (100 : Int) < (key.size : Int)
    · exact ch_long f0 f1 A c l key i page w hr hc k true hk rfl (decide_eq_true hl)
    · obtain ⟨⟨p1, p2, p3, p4⟩, hi, hi'⟩ := rinsert_ev f0 f1 l hr.2.1 i key page
      obtain ⟨⟨q1, q2, q3, q4, q5, q6, q7, q8⟩, hs, hs'⟩ := rsplit_ev f0 f1 l hr.2.1
      exact ch_main f0 f1 A c l key i page w hr hc k true hk rfl (decide_eq_false hl) p1 p2 p4 p3 hi hi' q1 q2 q4 q5 q8 q3 q6 q7 hs hs'
end Go.Proofs.Ytffkgdaookidbaa.Pure
namespace Go.Proofs.Ytffkgdaookidbaa.XNx
open Go.RowKit Go.Proofs.YtffkgdaookidbaaW.PrintWords
/-- The law's answer, in the form in which the printed functions are told: true, for any arguments ('calls' says that the code answers it). -/
def dasdlaw20_NodeChanges.f (k : Nat) (f0 f1 : Int) (l : List S32) (key : ByteArray) (i page : Int) : Option Bool := some true
theorem dasdlaw20_NodeChanges.calls (k : Nat) (f0 f1 : Int) (A : Option Addr) (c : Nat) (l : List S32) (key : ByteArray) (i page : Int) (r : Bool) (w : World) (hr : Kd.C k32 w A l.length l) (hc : l.length ≤ c) (h : dasdlaw20_NodeChanges.f k f0 f1 l key i page = some r) :
    Calls Try.prog 4 #[.agg #[.int .i64 f0, .int .i64 f1, .slice A l.length c], .string key, .int .i64 i, .int .i64 page] w fun e w' => e = .returned (.bool r) ∧ Below w.heap.size w w' := by
  obtain rfl := Option.some.inj h
  exact Pure.changes_calls f0 f1 A c l key i page w hr hc
end Go.Proofs.Ytffkgdaookidbaa.XNx
namespace Go.Proofs.Ytffkgdaookidbaa.Pure
open Go.RowKit Go.Proofs.Ytffkgdaookidbaa.XNx
theorem NodeChanges (f0 f1 : Int) (l : List S32) (key : ByteArray) (i page : Int) (w0 : (Lit.int .i64 f0).wf = true) (w1 : (Lit.int .i64 f1).wf = true) (hl : l.length ≤ 9223372036854775807) (hk : key.size ≤ 140737488351232) (w2 : (Lit.int .i64 i).wf = true) (w3 : (Lit.int .i64 page).wf = true) :
    ∃ k, dasdlaw20_NodeChanges.f k f0 f1 l key i page = some true := ⟨0, rfl⟩
end Go.Proofs.Ytffkgdaookidbaa.Pure
