/-
Plain laws on a node's form: what the program's Decode answers.
-/
import Derived.Test.YtffkgdaookidbaaForm2
import Derived.Test.YtffkgdaookidbaaXNx11
import Derived.Test.YtffkgdaookidbaaExtNumber
set_option linter.unusedVariables false
namespace Go.Proofs.Ytffkgdaookidbaa.Form
open Go.RowKit Go.Proofs.Ytffkgdaookidbaa.XNx Go.Proofs.Ytffkgdaookidbaa.Base Go.Proofs.YtffkgdaookidbaaW.PrintWords Go.Proofs.YtffkgdaookidbaaW.PrintLast Go.Proofs.YtffkgdaookidbaaW.PrintMore

/-! ### the reader -/
theorem mn_nat (a b : Nat) : mn (a : Int) (b : Int) = ((min a b : Nat) : Int) := by
  unfold mn
  first | rfl | (split <;> omega) | omega
theorem take_min (l : List UInt8) (n : Nat) : l.take (min n l.length) = l.take n := by
  by_cases h : n ≤ l.length
  · rw [Nat.min_eq_left h]
  · rw [Nat.min_eq_right (by omega), List.take_of_length_le (Nat.le_refl _), List.take_of_length_le (by omega)]
theorem drop_min (l : List UInt8) (n : Nat) : l.drop (min n l.length) = l.drop n := by
  by_cases h : n ≤ l.length
  · rw [Nat.min_eq_left h]
  · rw [Nat.min_eq_right (by omega), List.drop_of_length_le (Nat.le_refl _), List.drop_of_length_le (by omega)]
theorem take_f (r : List UInt8) (n : Nat) : node_reader_take.f (mk r) (n : Int) = some (mk (r.take n), mk (r.drop n)) := by
  unfold node_reader_take.f
  rw [mk_size, mn_nat, if_pos (by omega), if_pos (by omega), Int.toNat_natCast]
  congr 2
  · apply ba_ext
    show L _ = L _
    rw [L_to, L_mk, L_mk, take_min]
  · apply ba_ext
    show L _ = L _
    rw [← mk_size, L_from, L_mk, L_mk, mk_size, drop_min]
theorem num_f (r : List UInt8) (n : Nat) (hn : n ≤ 4) : node_reader_number.f (mk r) (n : Int) = some (((le (r.take n) : Nat) : Int), mk (r.drop n)) := by
  unfold node_reader_number.f
  rw [take_f, Option.bind_some]
  show (if (mk (r.take n)).size ≤ 4 then some (((le (L (mk (r.take n))) : Nat) : Int), mk (r.drop n)) else none) = _
  rw [if_pos (by rw [mk_size, List.length_take]; omega), L_mk]
theorem num1 (r : List UInt8) : node_reader_number.f (mk r) 1 = some (((le (r.take 1) : Nat) : Int), mk (r.drop 1)) := num_f r 1 (by decide)
theorem num4 (r : List UInt8) : node_reader_number.f (mk r) 4 = some (((le (r.take 4) : Nat) : Int), mk (r.drop 4)) := num_f r 4 (by decide)
theorem le1 (r : List UInt8) : le (r.take 1) ≤ 255 := by
  have := le_lt (r.take 1)
  have h : (r.take 1).length ≤ 1 := by rw [List.length_take]; omega
  have := Nat.pow_le_pow_right (show 0 < 256 by decide) h
  omega
theorem le4 (r : List UInt8) : le (r.take 4) ≤ 4294967295 := by
  have := le_lt (r.take 4)
  have h : (r.take 4).length ≤ 4 := by rw [List.length_take]; omega
  have := Nat.pow_le_pow_right (show 0 < 256 by decide) h
  omega

/-! ### the parser -/
def tl (r : List UInt8) : List UInt8 := (r.drop 2).drop (le ((r.drop 1).take 1))
def kP (p : ByteArray) (r : List UInt8) : ByteArray := mk ((L p).take (le (r.take 1)) ++ (r.drop 2).take (le ((r.drop 1).take 1)))
def pP : Nat → ByteArray → List UInt8 → List S32
  | 0, _, _ => []
  | n + 1, p, r => ⟨kP p r, ((le ((tl r).take 4) : Nat) : Int)⟩ :: pP n (kP p r) ((tl r).drop 4)
theorem pP_len : ∀ (n : Nat) (p : ByteArray) (r : List UInt8), (pP n p r).length = n
  | 0, p, r => rfl
  | n + 1, p, r => by rw [pP, List.length_cons, pP_len n]
theorem kP_size (p : ByteArray) (r : List UInt8) : (kP p r).size ≤ 510 := by
  unfold kP
  rw [mk_size, List.length_append, List.length_take, List.length_take]
  have := le1 r
  have := le1 (r.drop 1)
  omega
abbrev Res : Type := Int × Int × List S32 × Int
def fin (sz : Int) (d : ByteArray) (a b : Int) (l : List S32) : Res := if enc sz a b l = (d, 0) then (a, b, l, 0) else (0, 0, [], 11)
theorem fin_of {g : Nat → Option (ByteArray × Int)} (sz : Int) (d : ByteArray) (a b : Int) (l : List S32) (h : Ev g (enc sz a b l)) :
    Ev (fun k => (g k).bind fun bt174 => (if bt174.2 = 0 then (if bt174.1.toList = d.toList then (some (a, b, l, 0)) else (some (0, 0, ([] : List (S32)), 11))) else (some (0, 0, ([] : List (S32)), 11)) : Option Res)) (fin sz d a b l) := by
  refine Ev.bind h ?_
  unfold fin
  by_cases h2 : (enc sz a b l).2 = 0
  · refine Ev.congr (fun k => if_pos h2) ?_
    by_cases h1 : (enc sz a b l).1.toList = d.toList
    · rw [if_pos (Prod.ext (toList_inj h1) h2)]
      exact Ev.congr (fun k => if_pos h1) (Ev.now _)
    · rw [if_neg (show ¬ enc sz a b l = (d, 0) from fun h => h1 (by rw [h]))]
      exact Ev.congr (fun k => if_neg h1) (Ev.now _)
  · rw [if_neg (show ¬ enc sz a b l = (d, 0) from fun h => h2 (by rw [h]))]
    exact Ev.congr (fun k => if_neg h2) (Ev.now _)
theorem dec_l0 (sz : Int) (d : ByteArray) (a b : Int) (c : Nat) (hc : c ≤ 255) (n : Nat) : ∀ (i : Nat) (p : ByteArray) (r : List UInt8) (acc : List S32), c = i + n → acc.length = i → p.size ≤ 510 →
    Ev (fun k => node_Decode.l0 k sz d p (c : Int) (i : Int) (mk r) a b acc) (fin sz d a b (acc ++ pP n p r)) := by
  induction n with
  | zero =>
    intro i p r acc h1 h2 h3
    rw [pP, List.append_nil]
    refine Ev.step (fun k => ?_) (fin_of sz d a b acc (enc_ev sz a b acc (by omega)))
    rw [node_Decode.l0, if_neg (by omega)]
  | succ n ih =>
    intro i p r acc h1 h2 h3
    have hk := kP_size p r
    have next := ih (i + 1) (kP p r) ((tl r).drop 4) (acc ++ [⟨kP p r, ((le ((tl r).take 4) : Nat) : Int)⟩]) (by omega) (by rw [List.length_append, h2]; rfl) hk
    rw [List.append_assoc] at next
    refine Ev.step (fun k => ?_) next
    have e1 := le1 r
    have e2 := le1 (r.drop 1)
    have ek : p.extract 0 ((min (le (r.take 1)) p.size : Nat) : Int).toNat ++ mk (((r.drop 1).drop 1).take (le ((r.drop 1).take 1))) = kP p r := by
      apply ba_ext
      show L _ = L _
      rw [L_app, Int.toNat_natCast, L_to, L_mk]
      unfold kP
      rw [L_mk, ← L_len p, take_min, List.drop_drop]
    have es : (p.extract 0 ((min (le (r.take 1)) p.size : Nat) : Int).toNat).size + (mk (((r.drop 1).drop 1).take (le ((r.drop 1).take 1)))).size = (kP p r).size := by
      rw [← ek, ByteArray.size_append]
    have et : ((r.drop 1).drop 1).drop (le ((r.drop 1).take 1)) = tl r := by
      unfold tl
      rw [List.drop_drop (i := 1) (j := 1)]
    rw [node_Decode.l0, if_pos (by omega), num1, Option.bind_some]
    dsimp only
    rw [mn_nat, if_pos (by omega), if_pos (by omega), num1, Option.bind_some]
    dsimp only
    rw [take_f, Option.bind_some]
    dsimp only
    rw [es, ek, et, if_pos (by omega), num4, Option.bind_some]
    dsimp only
    rw [if_pos (by omega), w64 (by omega) (by omega)]
    rfl
def nA (d : ByteArray) : Nat := le ((L d).take 1)
def nB (d : ByteArray) : Nat := le (((L d).drop 1).take 4)
def nL (d : ByteArray) : Nat := le (((L d).drop 5).take 1)
def decP (sz : Int) (d : ByteArray) : Res := if okS sz = true then fin sz d (nA d) (nB d) (pP (nL d) ⟨#[]⟩ ((L d).drop 6)) else (0, 0, [], 1)
theorem dec_ev (sz : Int) (d : ByteArray) : Ev (fun k => node_Decode.f k sz d) (decP sz d) := by
  unfold node_Decode.f decP
  rw [isSize_f]
  cases hz : okS sz with
  | false =>
    rw [if_neg (show ¬ false = true by simp)]
    exact Ev.congr (fun k => by rw [Option.bind_some, if_neg (by simp)]) (Ev.now _)
  | true =>
    rw [if_pos rfl]
    have := dec_l0 sz d (nA d) (nB d) (nL d) (le1 _) (nL d) 0 ⟨#[]⟩ ((L d).drop 6) [] (by omega) rfl (Nat.zero_le _)
    refine Ev.congr (fun k => ?_) this
    have n1 := num1 (L d)
    rw [mk_L] at n1
    rw [Option.bind_some, if_pos rfl, n1, Option.bind_some]
    dsimp only
    rw [num4, Option.bind_some]
    dsimp only
    rw [num1, Option.bind_some]
    dsimp only
    rw [List.drop_drop, List.drop_drop]
    rfl
end Go.Proofs.Ytffkgdaookidbaa.Form
