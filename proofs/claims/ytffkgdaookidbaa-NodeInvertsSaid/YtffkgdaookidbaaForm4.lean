/-
Plain laws on a node's form: what is encoded is parsed back; what the program's Decode answers is a node of those bytes, or a refusal.
-/
import Derived.Test.YtffkgdaookidbaaForm3
import Derived.Test.YtffkgdaookidbaaXNx3
set_option linter.unusedVariables false
namespace Go.Proofs.Ytffkgdaookidbaa.Form
open Go.RowKit Go.Proofs.Ytffkgdaookidbaa.XNx Go.Proofs.Ytffkgdaookidbaa.Base Go.Proofs.YtffkgdaookidbaaW.PrintWords Go.Proofs.YtffkgdaookidbaaW.PrintLast Go.Proofs.YtffkgdaookidbaaW.PrintMore

theorem u_nat {x : Int} (h0 : 0 ≤ x) (h1 : x < 256) : ((u x).toNat : Int) = x := by
  unfold u
  rw [UInt8.toNat_ofNat']
  omega
theorem le_one {x : Int} (h0 : 0 ≤ x) (h1 : x < 256) : ((le [u x] : Nat) : Int) = x := by
  have := u_nat h0 h1
  simp only [le]
  omega
theorem le_four {x : Int} (h0 : 0 ≤ x) (h1 : x ≤ 16777216) : ((le (four x) : Nat) : Int) = x := by
  have a := u_nat (x := x % 256) (by omega) (by omega)
  have b := u_nat (x := x / 256 % 256) (by omega) (by omega)
  have c := u_nat (x := x / 65536 % 256) (by omega) (by omega)
  have d := u_nat (x := x / 16777216 % 256) (by omega) (by omega)
  simp only [four, le]
  omega
theorem four_len (x : Int) : (four x).length = 4 := rfl
theorem pP_enc1 (p : ByteArray) (x : S32) (z : List UInt8) (hx : x.f0.size ≤ 32 ∧ 1 ≤ x.f1 ∧ x.f1 ≤ 16777216) :
    kP p (enc1 p x ++ z) = x.f0 ∧ ((le ((tl (enc1 p x ++ z)).take 4) : Nat) : Int) = x.f1 ∧ (tl (enc1 p x ++ z)).drop 4 = z := by
  have hc := (cf_le (L p) (L x.f0)).2
  have hct := cf_take (L p) (L x.f0)
  rw [L_len] at hc
  generalize hC : cf (L p) (L x.f0) = c at hc hct
  have l1 : le [u (c : Int)] = c := by have := le_one (x := (c : Int)) (by omega) (by omega); omega
  have l2 : le [u ((x.f0.size : Int) - (c : Int))] = x.f0.size - c := by have := le_one (x := (x.f0.size : Int) - (c : Int)) (by omega) (by omega); omega
  have hr : enc1 p x ++ z = u (c : Int) :: u ((x.f0.size : Int) - (c : Int)) :: ((L x.f0).drop c ++ (four x.f1 ++ z)) := by
    unfold enc1
    rw [hC]
    simp only [List.append_assoc, List.cons_append, List.nil_append]
  rw [hr]
  have hlen : ((L x.f0).drop c).length = x.f0.size - c := by rw [List.length_drop, L_len]
  refine ⟨?_, ?_, ?_⟩
  · unfold kP
    show mk ((L p).take (le [u (c : Int)]) ++ ((L x.f0).drop c ++ (four x.f1 ++ z)).take (le [u ((x.f0.size : Int) - (c : Int))])) = x.f0
    rw [l1, l2, ← hlen, List.take_left' rfl, hct, List.take_append_drop, mk_L]
  · show ((le ((((L x.f0).drop c ++ (four x.f1 ++ z)).drop (le [u ((x.f0.size : Int) - (c : Int))])).take 4) : Nat) : Int) = x.f1
    rw [l2, ← hlen, List.drop_left' rfl, List.take_left' (four_len _)]
    exact le_four (by omega) (by omega)
  · show (((L x.f0).drop c ++ (four x.f1 ++ z)).drop (le [u ((x.f0.size : Int) - (c : Int))])).drop 4 = z
    rw [l2, ← hlen, List.drop_left' rfl, List.drop_left' (four_len _)]
theorem pP_encA (z : List UInt8) : ∀ (l : List S32) (p : ByteArray), (∀ x ∈ l, x.f0.size ≤ 32 ∧ 1 ≤ x.f1 ∧ x.f1 ≤ 16777216) → pP l.length p (encA p l ++ z) = l
  | [], p, h => rfl
  | x :: l, p, h => by
    obtain ⟨h1, h2, h3⟩ := pP_enc1 p x (encA x.f0 l ++ z) (h x (by simp))
    rw [List.length_cons, encA, List.append_assoc, pP, h1, h2, h3, pP_encA z l x.f0 (fun y hy => h y (by simp [hy]))]
theorem enc_some {sz a b : Int} {l : List S32} {d : ByteArray} (h : enc sz a b l = (d, 0)) : okS sz = true ∧ valid a b l = true ∧ ((frm a b l).length : Int) ≤ sz ∧ L d = frm a b l ++ List.replicate (sz.toNat - (frm a b l).length) 0 := by
  unfold enc at h
  by_cases h1 : okS sz = true ∧ valid a b l = true
  · rw [if_pos h1] at h
    by_cases h2 : ((frm a b l).length : Int) > sz
    · rw [if_pos h2] at h
      cases h
    · rw [if_neg h2] at h
      have : mk (frm a b l ++ List.replicate (sz.toNat - (frm a b l).length) 0) = d := congrArg Prod.fst h
      exact ⟨h1.1, h1.2, by omega, by rw [← this, L_mk]⟩
  · rw [if_neg h1] at h
    cases h
theorem enc_size {sz a b : Int} {l : List S32} {d : ByteArray} (h : enc sz a b l = (d, 0)) : (d.size : Int) = sz := by
  obtain ⟨h1, h2, h3, h4⟩ := enc_some h
  have := congrArg List.length h4
  rw [L_len, List.length_append, List.length_replicate] at this
  omega
theorem read_back {sz a b : Int} {l : List S32} {d : ByteArray} (h : enc sz a b l = (d, 0)) : (nA d : Int) = a ∧ (nB d : Int) = b ∧ nL d = l.length ∧ ∃ z, (L d).drop 6 = encA ⟨#[]⟩ l ++ z := by
  obtain ⟨h1, h2, h3, h4⟩ := enc_some h
  have f := fine h2
  have := f.n2
  have e : L d = u (a % 256) :: (four b ++ (u ((l.length : Int) % 256) :: (encA ⟨#[]⟩ l ++ List.replicate (sz.toNat - (frm a b l).length) 0))) := by
    rw [h4]
    generalize List.replicate (sz.toNat - (frm a b l).length) (0 : UInt8) = z
    unfold frm
    simp only [List.append_assoc, List.cons_append, List.nil_append]
  refine ⟨?_, ?_, ?_, List.replicate (sz.toNat - (frm a b l).length) 0, ?_⟩
  · unfold nA
    rw [e]
    show ((le [u (a % 256)] : Nat) : Int) = a
    have := f.a1
    have := f.a2
    rw [le_one (by omega) (by omega)]
    omega
  · unfold nB
    rw [e]
    show ((le (four b) : Nat) : Int) = b
    exact le_four f.b1 f.b2
  · unfold nL
    rw [e]
    show le [u ((l.length : Int) % 256)] = l.length
    have := le_one (x := (l.length : Int) % 256) (by omega) (by omega)
    omega
  · rw [e]
    rfl
theorem decP_enc {sz a b : Int} {l : List S32} {d : ByteArray} (h : enc sz a b l = (d, 0)) : decP sz d = (a, b, l, 0) := by
  obtain ⟨h1, h2, h3, h4⟩ := enc_some h
  obtain ⟨r1, r2, r3, z, r4⟩ := read_back h
  unfold decP
  rw [if_pos h1, r1, r2, r3, r4, pP_encA z l ⟨#[]⟩ (fine h2).mem]
  unfold fin
  rw [if_pos h]
/-- What Decode answers: a node of these very bytes, or an empty node and a code. -/
theorem decP_cases (sz : Int) (d : ByteArray) : (∃ a b l, decP sz d = (a, b, l, 0) ∧ enc sz a b l = (d, 0) ∧ l.length ≤ 255) ∨ ∃ c, (c = 1 ∨ c = 11) ∧ decP sz d = (0, 0, [], c) := by
  unfold decP
  by_cases h1 : okS sz = true
  · rw [if_pos h1]
    unfold fin
    by_cases h2 : enc sz (nA d) (nB d) (pP (nL d) ⟨#[]⟩ ((L d).drop 6)) = (d, 0)
    · rw [if_pos h2]
      exact .inl ⟨_, _, _, rfl, h2, by rw [pP_len]; exact le1 _⟩
    · rw [if_neg h2]
      exact .inr ⟨11, .inr rfl, rfl⟩
  · rw [if_neg h1]
    exact .inr ⟨1, .inl rfl, rfl⟩

/-! ### Same -/
theorem same_l0 (a b : Int) (l : List S32) (hl : l.length ≤ 9223372036854775807) (d : Nat) : ∀ i : Nat, l.length = i + d → Ev (fun k => dasdref20_Same.l0 k (i : Int) a b l a b l) true := by
  induction d with
  | zero =>
    intro i h
    refine Ev.step (f := fun _ => some _) (fun k => ?_) (Ev.now _)
    rw [dasdref20_Same.l0, if_neg (by omega)]
  | succ d ih =>
    intro i h
    refine Ev.step (fun k => ?_) (ih (i + 1) (by omega))
    show dasdref20_Same.l0 (k + 1) (i : Int) a b l a b l = dasdref20_Same.l0 k ((i + 1 : Nat) : Int) a b l a b l
    have e : (!((rd_T32 l (i : Int)).f0.toList == (rd_T32 l (i : Int)).f0.toList) || (!((rd_T32 l (i : Int)).f1 == (rd_T32 l (i : Int)).f1))) = false := by
      rw [beq_self_eq_true, beq_self_eq_true]; rfl
    rw [dasdref20_Same.l0, if_pos (by omega), if_pos (by omega), if_pos (by omega), e, if_neg (by simp), w64 (by omega) (by omega)]
    rfl
theorem same_ev (a b : Int) (l : List S32) (hl : l.length ≤ 9223372036854775807) : Ev (fun k => dasdref20_Same.f k a b l a b l) true := by
  have := same_l0 a b l hl l.length 0 (by omega)
  unfold dasdref20_Same.f
  refine Ev.congr (fun k => (if_pos rfl).trans (if_pos rfl)) ?_
  refine Ev.step (fun k => ?_) this
  rw [dasdref20_Same.j0, if_neg (by simp)]
  rfl
end Go.Proofs.Ytffkgdaookidbaa.Form
