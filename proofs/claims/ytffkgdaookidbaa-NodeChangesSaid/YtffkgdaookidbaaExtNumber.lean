/-
Contract of (*reader).number at this dump, in the form in which the printed functions are told: at most four bytes, the least significant first; for any state of the reader.
-/
import Derived.Test.YtffkgdaookidbaaXNx10
import Derived.Lib.AtoiErrMem
set_option linter.unusedVariables false
set_option linter.unusedSimpArgs false
namespace Go.Proofs.Ytffkgdaookidbaa.XNx
open Go.RowKit Go.Proofs.YtffkgdaookidbaaW.PrintWords Go.Proofs.YtffkgdaookidbaaW.PrintLast Go.Proofs.YtffkgdaookidbaaW.PrintMore
open Go.Proofs.Ytffkgdaookidbaa.XW

/-- A number's bytes, the least significant first. -/
def le : List UInt8 → Nat
  | [] => 0
  | b :: l => b.toNat + 256 * le l
theorem le_snoc (l : List UInt8) (b : UInt8) : le (l ++ [b]) = le l + 256 ^ l.length * b.toNat := by
  induction l with
  | nil => simp [le]
  | cons c l ih =>
    simp only [List.cons_append, le, ih, List.length_cons, Nat.pow_succ]
    rw [Nat.mul_add, Nat.mul_comm (256 ^ l.length) 256, Nat.mul_assoc]
    omega
theorem le_lt (l : List UInt8) : le l < 256 ^ l.length := by
  induction l with
  | nil => simp [le]
  | cons b l ih =>
    have := b.toNat_lt
    simp only [le, List.length_cons, Nat.pow_succ]
    omega
theorem wraps_i64x : ∀ n : Int, 0 ≤ n → n < 2 ^ 62 → IntKind.i64.wrap n = n := by
  intro n h0 h1
  have e := i64_w n
  rw [e]
  unfold wrap64
  omega
theorem or_add (a b i : Nat) (ha : a < 2 ^ i) (hb : b % 2 ^ i = 0) (ha1 : a < 2 ^ 62) (hb1 : b < 2 ^ 62) : Go.bits .or .i64 (a : Int) (b : Int) = ((a + b : Nat) : Int) := by
  rw [(bits_nat .i64 62 (by decide) wraps_i64x a b ha1 hb1).2]
  have hq : b = 2 ^ i * (b / 2 ^ i) := by
    have := Nat.div_add_mod b (2 ^ i)
    omega
  rw [Nat.or_comm, hq, ← Nat.two_pow_add_eq_or_of_lt ha (b / 2 ^ i), Nat.add_comm]

set_option maxHeartbeats 4000000 in
set_option maxRecDepth 100000 in
theorem number_calls (g : Nat) (s0_0 : ByteArray) (a1 : Int) (r1 : ByteArray) (r2 : ByteArray) (w0 w : World) (hI : IsS54 w0 w g s0_0) (hB : Below w0.heap.size w0 w) (h : node_reader_take.f s0_0 a1 = some (r1, r2)) (hr : r1.size ≤ 4) :
    Calls Try.prog 37 #[.pointer (some ⟨g, 0, none⟩), .int .i64 a1] w fun e w' => e = .returned (.int .i64 (le r1.data.toList)) ∧ IsS54 w0 w' g r2 ∧ Below w0.heap.size w0 w' ∧ KeepBut w w' g none := by
  have HI := Aside0.mk hI
  have HB := Aside0.mk hB
  have HH := Aside0.mk h
  clear h hI hB
  go_enter Try.func37, Try.ntmps37
  go_wp2_with fail
  refine (node_reader_take.calls g s0_0 a1 r1 r2 w0 _ HI.out HB.out HH.out).mono ?_
  rintro e w2 ⟨rfl, hI2, hB2, hK2⟩
  have hcv := Lib.run_convert_string_bytes (P := Try.prog) w2 9 58 5 r1 Try.underlying9 Try.underlying58 Try.underlying5
  have hbw := Lib.bytesWorld_below w2 5 r1
  have hcell := fun (j : Nat) (hj : j < r1.size) => Lib.bytesWorld_cell w2 5 r1 j hj
  generalize Lib.bytesWorld w2 5 r1 = w3 at hcv hbw hcell
  have HI3 := Aside0.mk (hI2.below hbw)
  have HB3 := Aside0.mk (below_step hB2 hbw)
  have HK3 := Aside0.mk (hK2.trans (KeepBut.of_below hbw g none) (.inl rfl))
  have HC := Aside0.mk hcell
  clear hI2 hB2 hK2 hbw hcell
  go_wp2
  clear hcv
  go_loop [5, 13] (fun v5 v13 => ∃ i : Nat, i ≤ r1.size ∧ v13 = .int .i64 i ∧ v5 = .int .i64 (le (r1.data.toList.take i) : Nat)) (fun _ v13 => r1.size - (intOf v13).toNat)
  case atStart => exact ⟨0, Nat.zero_le _, rfl, rfl⟩
  case round =>
    obtain ⟨i, hi, rfl, rfl⟩ := hrel
    by_cases hlt : i < r1.size
    · have hcw := HC.out i hlt
      have hlen : r1.data.toList.length = r1.size := by rw [Array.length_toList]; rfl
      have htk : r1.data.toList.take (i + 1) = r1.data.toList.take i ++ [r1.data.toList.getD i 0] := by
        rw [List.take_succ_eq_append_getElem (by omega), List.getD_eq_getElem?_getD, List.getElem?_eq_getElem (by omega)]
        rfl
      have hle := le_lt (r1.data.toList.take i)
      have hsn := le_snoc (r1.data.toList.take i) (r1.data.toList.getD i 0)
      have hb := (r1.data.toList.getD i 0).toNat_lt
      rw [← htk] at hsn
      rw [List.length_take, Nat.min_eq_left (by omega)] at hle hsn
      generalize r1.data.toList.getD i 0 = b at hcw hsn hb
      generalize le (r1.data.toList.take i) = x at hle hsn ⊢
      generalize hy : le (r1.data.toList.take (i + 1)) = y at hsn
      have HY := Aside0.mk hy
      have HS := Aside0.mk hsn
      have HL := Aside0.mk hle
      clear hy hsn hle htk hlen
      have hcase : i = 0 ∨ i = 1 ∨ i = 2 ∨ i = 3 := by omega
      have tell : ∀ q : Nat, q = 256 ^ i → Go.bits .or .i64 (x : Int) (((b.toNat * q : Nat)) : Int) = ((le (r1.data.toList.take (i + 1)) : Nat) : Int) := by
        intro q hq
        have h2 : (256 : Nat) ^ i = 2 ^ (8 * i) := by rw [Nat.pow_mul]
        have hL := HL.out
        have hS := HS.out
        rw [← hq] at hL hS
        have hq4 : q ≤ 16777216 := by
          rw [hq]
          exact Nat.le_trans (Nat.pow_le_pow_right (by decide) (show i ≤ 3 by omega)) (by decide)
        have hbq : b.toNat * q ≤ 256 * 16777216 := Nat.mul_le_mul (by omega) hq4
        rw [or_add x (b.toNat * q) (8 * i) (by rw [← h2, ← hq]; exact hL) (by rw [← h2, ← hq, Nat.mul_mod_left]) (Nat.lt_of_lt_of_le hL (Nat.le_trans hq4 (by decide))) (Nat.lt_of_le_of_lt hbq (by decide)), HY.out, hS, Nat.mul_comm]
      have HT := Aside0.mk tell
      clear tell
      have fin : ∀ (u : Int) (q : Nat), q = 256 ^ i → u = ((b.toNat * q : Nat) : Int) → Value.int IntKind.i64 (Go.bits BinOp.or IntKind.i64 (x : Int) u) = Value.int IntKind.i64 ((le (r1.data.toList.take (i + 1)) : Nat) : Int) := fun u q hq hu => by rw [hu, HT.out q hq]
      have HF := Aside0.mk fin
      clear fin
      rcases hcase with rfl | rfl | rfl | rfl
      all_goals go_wp2
      · exact ⟨⟨1, by omega, rfl, HF.out _ 1 rfl (by simp)⟩, by simp [intOf]; omega⟩
      · exact ⟨⟨2, by omega, rfl, HF.out _ 256 rfl (by simp)⟩, by simp [intOf]; omega⟩
      · exact ⟨⟨3, by omega, rfl, HF.out _ 65536 rfl (by simp)⟩, by simp [intOf]; omega⟩
      · exact ⟨⟨4, by omega, rfl, HF.out _ 16777216 rfl (by simp)⟩, by simp [intOf]; omega⟩
    · have : i = r1.size := by omega
      subst this
      go_wp2
      go_ret
      refine ⟨?_, HI3.out, HB3.out, HK3.out⟩
      have e : r1.data.toList.take r1.size = r1.data.toList := List.take_of_length_le (by rw [Array.length_toList]; exact Nat.le_refl _)
      rw [e]
      rfl

def node_reader_number.f (s0_0 : ByteArray) (a1 : Int) : Option (Int × ByteArray) :=
  (node_reader_take.f s0_0 a1).bind fun t => if t.1.size ≤ 4 then some (((le t.1.data.toList : Nat) : Int), t.2) else none
theorem node_reader_number.calls (g : Nat) (s0_0 : ByteArray) (a1 : Int) (r1 : Int) (r2 : ByteArray) (w0 w : World) (hI : IsS54 w0 w g s0_0) (hB : Below w0.heap.size w0 w) (h : node_reader_number.f s0_0 a1 = some (r1, r2)) :
    Calls Try.prog 37 #[.pointer (some ⟨g, 0, none⟩), .int .i64 a1] w fun e w' => e = .returned (.int .i64 r1) ∧ IsS54 w0 w' g r2 ∧ Below w0.heap.size w0 w' ∧ KeepBut w w' g none := by
  unfold node_reader_number.f at h
  obtain ⟨⟨t1, t2⟩, ht, h⟩ := Option.bind_eq_some_iff.mp h
  by_cases hs : t1.size ≤ 4
  · rw [if_pos hs] at h
    simp only [Option.some.injEq, Prod.mk.injEq] at h
    obtain ⟨rfl, rfl⟩ := h
    exact number_calls g s0_0 a1 t1 t2 w0 w hI hB ht hs
  · rw [if_neg hs] at h
    cases h
end Go.Proofs.Ytffkgdaookidbaa.XNx
