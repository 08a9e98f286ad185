/-
Contract of node.Insert at this dump, in the form in which the printed functions are told, for any arguments.
-/
import Derived.Test.YtffkgdaookidbaaExtInsM0
import Derived.Test.YtffkgdaookidbaaExtInsM1
set_option linter.unusedVariables false
set_option linter.unusedSimpArgs false
namespace Go.Proofs.Ytffkgdaookidbaa.XNx
open Go.RowKit Go.Proofs.YtffkgdaookidbaaW.PrintWords Go.Proofs.YtffkgdaookidbaaW.PrintLast Go.Proofs.YtffkgdaookidbaaW.PrintMore
open Go.Proofs.Ytffkgdaookidbaa.XW Go.Proofs.Ytffkgdaookidbaa.Base

/-- A bound that lies not where it should. -/
def wrong (l : List S32) (i : Nat) (below : ByteArray) : Prop := below.toList.isEmpty = true ∨ 32 < below.size ∨ (0 < i ∧ less (en l (i - 1)).f0 below = false) ∨ ((en l i).f0.toList.isEmpty = false ∧ less below (en l i).f0 = false)
instance (l : List S32) (i : Nat) (below : ByteArray) : Decidable (wrong l i below) := by unfold wrong; infer_instance
def node_Insert.f (a b : Int) (l : List S32) (i : Int) (below : ByteArray) (page : Int) : Option (Int × Int × (List (S32)) × Int) :=
  if valid a b l = false ∨ ¬ (1 ≤ page ∧ page ≤ 16777216) ∨ i < 0 ∨ (l.length : Int) ≤ i then some (0, 0, [], 1) else if wrong l i.toNat below then some (0, 0, [], 2) else if l.length = 120 then some (0, 0, [], 8) else
    some (a, b, (l.take i.toNat ++ ⟨below, (en l i.toNat).f1⟩ :: l.drop i.toNat).set (i.toNat + 1) ⟨(en l i.toNat).f0, page⟩, 0)
theorem node_Insert.calls (a0_0 : Int) (a0_1 : Int) (A0_2 : Option Addr) (c0_2 : Nat) (l0_2 : List (S32)) (a1 : Int) (a2 : ByteArray) (a3 : Int) (r1 : Int) (r2 : Int) (r3 : List (S32)) (r4 : Int) (w : World) (hr0_2 : Kd.C k32 w A0_2 l0_2.length l0_2) (hc0_2 : l0_2.length ≤ c0_2) (h : node_Insert.f a0_0 a0_1 l0_2 a1 a2 a3 = some (r1, r2, r3, r4)) :
    Calls Try.prog 13 #[.agg #[.int .i64 a0_0, .int .i64 a0_1, .slice A0_2 l0_2.length c0_2], .int .i64 a1, .string a2, .int .i64 a3] w fun e w' => ∃ v2_ : Value, e = .returned (.tuple #[.agg #[.int .i64 r1, .int .i64 r2, v2_], .int .i64 r4]) ∧ Kd.R k32 32 w' w.heap.size (fun _ => True) v2_ r3 ∧ Below w.heap.size w w' := by
  have no : ∀ (c : Int) (hh : some (((0 : Int), (0 : Int), ([] : List S32), c)) = some (r1, r2, r3, r4)) (hC : Calls Try.prog 13 #[.agg #[.int .i64 a0_0, .int .i64 a0_1, .slice A0_2 l0_2.length c0_2], .int .i64 a1, .string a2, .int .i64 a3] w fun e w' => e = .returned (.tuple #[.agg #[.int .i64 0, .int .i64 0, .slice none 0 0], .int .i64 c]) ∧ Below w.heap.size w w'),
      Calls Try.prog 13 #[.agg #[.int .i64 a0_0, .int .i64 a0_1, .slice A0_2 l0_2.length c0_2], .int .i64 a1, .string a2, .int .i64 a3] w fun e w' => ∃ v2_ : Value, e = .returned (.tuple #[.agg #[.int .i64 r1, .int .i64 r2, v2_], .int .i64 r4]) ∧ Kd.R k32 32 w' w.heap.size (fun _ => True) v2_ r3 ∧ Below w.heap.size w w' := by
    intro c hh hC
    simp only [Option.some.injEq, Prod.mk.injEq] at hh
    obtain ⟨rfl, rfl, rfl, rfl⟩ := hh
    exact hC.mono fun e w' ⟨he, hb⟩ => ⟨_, he, Kd.R_nil _ _ _ _ _, hb⟩
  unfold node_Insert.f at h
  by_cases h1 : valid a0_0 a0_1 l0_2 = false ∨ ¬ (1 ≤ a3 ∧ a3 ≤ 16777216) ∨ a1 < 0 ∨ (l0_2.length : Int) ≤ a1
  · rw [if_pos h1] at h
    refine no 1 h ?_
    cases hv : valid a0_0 a0_1 l0_2 with
    | false => exact ins_bad a0_0 a0_1 A0_2 c0_2 l0_2 a1 a2 a3 w hr0_2 hc0_2 hv
    | true =>
      by_cases hp : 1 ≤ a3 ∧ a3 ≤ 16777216
      · by_cases hn : a1 < 0
        · exact ins_neg a0_0 a0_1 A0_2 c0_2 l0_2 a1 a2 a3 w hr0_2 hc0_2 hv (decide_eq_true hp) (decide_eq_true hn)
        · refine ins_over a0_0 a0_1 A0_2 c0_2 l0_2 a1 a2 a3 w hr0_2 hc0_2 hv (decide_eq_true hp) (decide_eq_false hn) (decide_eq_true ?_)
          rcases h1 with h1 | h1 | h1 | h1
          · rw [hv] at h1
            cases h1
          · exact absurd hp h1
          · exact absurd h1 hn
          · exact h1
      · exact ins_page a0_0 a0_1 A0_2 c0_2 l0_2 a1 a2 a3 w hr0_2 hc0_2 hv (decide_eq_false hp)
  · rw [if_neg h1] at h
    have hv : valid a0_0 a0_1 l0_2 = true := by
      cases hv : valid a0_0 a0_1 l0_2 with
      | true => rfl
      | false => exact absurd (.inl hv) h1
    have hp : 1 ≤ a3 ∧ a3 ≤ 16777216 := Decidable.byContradiction fun hp => h1 (.inr (.inl hp))
    have hn : ¬ a1 < 0 := fun hn => h1 (.inr (.inr (.inl hn)))
    have ho : ¬ (l0_2.length : Int) ≤ a1 := fun ho => h1 (.inr (.inr (.inr ho)))
    obtain ⟨i, rfl⟩ : ∃ i : Nat, a1 = (i : Int) := ⟨a1.toNat, by omega⟩
    have hi : i < l0_2.length := by omega
    have hh := of_decide_eq_true ((valid_iff a0_0 a0_1 l0_2).mp hv).1
    rw [Int.toNat_natCast] at h
    by_cases hw : wrong l0_2 i a2
    · rw [if_pos hw] at h
      refine no 2 h ?_
      by_cases w1 : a2.toList.isEmpty = true
      · exact ins_e1 a0_0 a0_1 A0_2 c0_2 l0_2 _ a2 a3 w hr0_2 hc0_2 hv (decide_eq_true hp) i rfl hi w1
      rw [Bool.not_eq_true] at w1
      by_cases w2 : (32 : Int) < (a2.size : Int)
      · exact ins_e2 a0_0 a0_1 A0_2 c0_2 l0_2 _ a2 a3 w hr0_2 hc0_2 hv (decide_eq_true hp) i rfl hi w1 (decide_eq_true w2)
      have hw2 : (0 < i ∧ less (en l0_2 (i - 1)).f0 a2 = false) ∨ ((en l0_2 i).f0.toList.isEmpty = false ∧ less a2 (en l0_2 i).f0 = false) := by
        rcases hw with hw | hw | hw
        · rw [w1] at hw
          cases hw
        · omega
        · exact hw
      by_cases w3 : 0 < i ∧ less (en l0_2 (i - 1)).f0 a2 = false
      · exact ins_e3 a0_0 a0_1 A0_2 c0_2 l0_2 _ a2 a3 w hr0_2 hc0_2 hv (decide_eq_true hp) i rfl hi w1 (decide_eq_false w2) (i - 1) (by omega) w3.2
      have w4 := hw2.resolve_left w3
      by_cases w5 : i = 0
      · exact ins_e4a a0_0 a0_1 A0_2 c0_2 l0_2 _ a2 a3 w hr0_2 hc0_2 hv (decide_eq_true hp) i rfl hi w1 (decide_eq_false w2) w5 w4.1 w4.2
      · have w6 : Op.bytesLess (en l0_2 (i - 1)).f0.toList a2.toList = true := by
          cases hb : Op.bytesLess (en l0_2 (i - 1)).f0.toList a2.toList with
          | true => rfl
          | false => exact absurd ⟨by omega, hb⟩ w3
        exact ins_e4b a0_0 a0_1 A0_2 c0_2 l0_2 _ a2 a3 w hr0_2 hc0_2 hv (decide_eq_true hp) i rfl hi w1 (decide_eq_false w2) (i - 1) (by omega) w6 w4.1 w4.2
    · rw [if_neg hw] at h
      have w1 : a2.toList.isEmpty = false := by
        cases hb : a2.toList.isEmpty with
        | false => rfl
        | true => exact absurd (.inl hb) hw
      have w2 : ¬ (32 : Int) < (a2.size : Int) := fun hb => hw (.inr (.inl (by omega)))
      have w3 : i ≠ 0 → Op.bytesLess (en l0_2 (i - 1)).f0.toList a2.toList = true := fun h0 => by
        cases hb : Op.bytesLess (en l0_2 (i - 1)).f0.toList a2.toList with
        | true => rfl
        | false => exact absurd (.inr (.inr (.inl ⟨by omega, hb⟩))) hw
      have w4 : (en l0_2 i).f0.toList.isEmpty = false → Op.bytesLess a2.toList (en l0_2 i).f0.toList = true := fun he => by
        cases hb : Op.bytesLess a2.toList (en l0_2 i).f0.toList with
        | true => rfl
        | false => exact absurd (.inr (.inr (.inr ⟨he, hb⟩))) hw
      by_cases hf : l0_2.length = 120
      · rw [if_pos hf] at h
        refine no 8 h ?_
        by_cases w5 : i = 0
        · cases he : (en l0_2 i).f0.toList.isEmpty with
          | true => exact ins_f00 a0_0 a0_1 A0_2 c0_2 l0_2 _ a2 a3 w hr0_2 hc0_2 hv (decide_eq_true hp) i rfl hi w1 (decide_eq_false w2) w5 he hf
          | false => exact ins_f01 a0_0 a0_1 A0_2 c0_2 l0_2 _ a2 a3 w hr0_2 hc0_2 hv (decide_eq_true hp) i rfl hi w1 (decide_eq_false w2) w5 he (w4 he) hf
        · cases he : (en l0_2 i).f0.toList.isEmpty with
          | true => exact ins_f10 a0_0 a0_1 A0_2 c0_2 l0_2 _ a2 a3 w hr0_2 hc0_2 hv (decide_eq_true hp) i rfl hi w1 (decide_eq_false w2) (i - 1) (by omega) (w3 w5) he hf
          | false => exact ins_f11 a0_0 a0_1 A0_2 c0_2 l0_2 _ a2 a3 w hr0_2 hc0_2 hv (decide_eq_true hp) i rfl hi w1 (decide_eq_false w2) (i - 1) (by omega) (w3 w5) he (w4 he) hf
      · rw [if_neg hf] at h
        simp only [Option.some.injEq, Prod.mk.injEq] at h
        obtain ⟨rfl, rfl, rfl, rfl⟩ := h
        have hm : l0_2.length ≤ 120 := by omega
        by_cases w5 : i = 0
        · cases he : (en l0_2 i).f0.toList.isEmpty with
          | true => exact ins_m00 a0_0 a0_1 A0_2 c0_2 l0_2 _ a2 a3 w hr0_2 hc0_2 hv (decide_eq_true hp) i rfl hi w1 (decide_eq_false w2) w5 he hf hm
          | false => exact ins_m01 a0_0 a0_1 A0_2 c0_2 l0_2 _ a2 a3 w hr0_2 hc0_2 hv (decide_eq_true hp) i rfl hi w1 (decide_eq_false w2) w5 he (w4 he) hf hm
        · cases he : (en l0_2 i).f0.toList.isEmpty with
          | true => exact ins_m10 a0_0 a0_1 A0_2 c0_2 l0_2 _ a2 a3 w hr0_2 hc0_2 hv (decide_eq_true hp) i rfl hi w1 (decide_eq_false w2) (i - 1) (by omega) (w3 w5) he hf hm
          | false => exact ins_m11 a0_0 a0_1 A0_2 c0_2 l0_2 _ a2 a3 w hr0_2 hc0_2 hv (decide_eq_true hp) i rfl hi w1 (decide_eq_false w2) (i - 1) (by omega) (w3 w5) he (w4 he) hf hm
end Go.Proofs.Ytffkgdaookidbaa.XNx
