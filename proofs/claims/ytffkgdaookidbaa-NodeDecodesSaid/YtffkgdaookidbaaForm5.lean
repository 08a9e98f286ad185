/-
Plain laws on a node's form: what the reference's Decode answers: the same as the program's, for any bytes.
-/
import Derived.Test.YtffkgdaookidbaaForm4
import Derived.Test.YtffkgdaookidbaaXNx26
set_option linter.unusedVariables false
namespace Go.Proofs.Ytffkgdaookidbaa.Form
open Go.RowKit Go.Proofs.Ytffkgdaookidbaa.XNx Go.Proofs.Ytffkgdaookidbaa.Base Go.Proofs.YtffkgdaookidbaaW.PrintWords Go.Proofs.YtffkgdaookidbaaW.PrintLast Go.Proofs.YtffkgdaookidbaaW.PrintMore

theorem le_take1 (l : List UInt8) (i : Nat) : le ((l.drop i).take 1) = (l[i]?.getD 0).toNat := by
  by_cases h : i < l.length
  · rw [drop_at l i h, List.getElem?_eq_getElem h]
    show (l[i]).toNat + 256 * 0 = (l[i]).toNat
    omega
  · rw [List.drop_of_length_le (by omega), List.getElem?_eq_none (by omega)]
    rfl
theorem bt_le (d : ByteArray) (i : Nat) : bt d (i : Int) = ((le (((L d).drop i).take 1) : Nat) : Int) := by rw [bt_list, le_take1]
theorem le_take4 : ∀ r : List UInt8, le (r.take 4) = le (r.take 1) + 256 * le ((r.drop 1).take 1) + 65536 * le ((r.drop 2).take 1) + 16777216 * le ((r.drop 3).take 1)
  | [] => by simp [le]
  | [a] => by simp [le]
  | [a, b] => by simp [le]
  | [a, b, c] => by simp [le]; omega
  | a :: b :: c :: d :: r => by simp [le]; omega
theorem rnum (d : ByteArray) (i : Nat) (h : i + 4 ≤ d.size) (hd : d.size ≤ 1000) : dasdref20_number.f d (i : Int) = some ((le (((L d).drop i).take 4) : Nat) : Int) := by
  have e1 : wrap64 ((i : Int) + 1) = ((i + 1 : Nat) : Int) := (w64 (by omega) (by omega)).trans (by omega)
  have e2 : wrap64 ((i : Int) + 2) = ((i + 2 : Nat) : Int) := (w64 (by omega) (by omega)).trans (by omega)
  have e3 : wrap64 ((i : Int) + 3) = ((i + 3 : Nat) : Int) := (w64 (by omega) (by omega)).trans (by omega)
  have h4 := le_take4 ((L d).drop i)
  rw [List.drop_drop, List.drop_drop, List.drop_drop] at h4
  have g0 := le1 ((L d).drop i)
  have g1 := le1 ((L d).drop (i + 1))
  have g2 := le1 ((L d).drop (i + 2))
  have g3 := le1 ((L d).drop (i + 3))
  unfold dasdref20_number.f
  rw [e1, e2, e3, if_pos (by omega), if_pos (by omega), if_pos (by omega), if_pos (by omega), if_pos (by omega), if_pos (by omega), if_pos (by omega), if_pos (by omega), bt_le, bt_le, bt_le, bt_le, h4]
  generalize le (((L d).drop i).take 1) = q0 at g0 ⊢
  generalize le (((L d).drop (i + 1)).take 1) = q1 at g1 ⊢
  generalize le (((L d).drop (i + 2)).take 1) = q2 at g2 ⊢
  generalize le (((L d).drop (i + 3)).take 1) = q3 at g3 ⊢
  rw [w64 (x := (q0 : Int)) (by omega) (by omega), w64 (x := (q1 : Int)) (by omega) (by omega), w64 (x := (q2 : Int)) (by omega) (by omega), w64 (x := (q3 : Int)) (by omega) (by omega),
    w64 (x := 256 * (q1 : Int)) (by omega) (by omega), w64 (x := 65536 * (q2 : Int)) (by omega) (by omega), w64 (x := 16777216 * (q3 : Int)) (by omega) (by omega),
    w64 (x := (q0 : Int) + 256 * (q1 : Int)) (by omega) (by omega), w64 (x := (q0 : Int) + 256 * (q1 : Int) + 65536 * (q2 : Int)) (by omega) (by omega), w64 (by omega) (by omega)]
  exact congrArg some (by omega)

theorem rkey (d p : ByteArray) (pos S M : Nat) (hS : le (((L d).drop pos).take 1) = S) (hM : le (((L d).drop (pos + 1)).take 1) = M) :
    p.extract 0 (S : Int).toNat ++ d.extract ((pos + 2 : Nat) : Int).toNat ((pos + 2 + M : Nat) : Int).toNat = kP p ((L d).drop pos) := by
  apply ba_ext
  show L _ = L _
  rw [L_app, Int.toNat_natCast, Int.toNat_natCast, Int.toNat_natCast, L_to, L_extract]
  unfold kP
  rw [L_mk, hS, List.drop_drop, List.drop_drop, List.drop_take, hM, show pos + 2 + M - (pos + 2) = M by omega]
theorem rtl (d : ByteArray) (pos M : Nat) (hM : le (((L d).drop (pos + 1)).take 1) = M) : (L d).drop (pos + 2 + M) = tl ((L d).drop pos) := by
  unfold tl
  rw [List.drop_drop, List.drop_drop, List.drop_drop, hM, Nat.add_assoc]
theorem rb5 (d : ByteArray) (c : Nat) (hc : le (((L d).drop 5).take 1) = c) : wrap64 (bt d 5) = (c : Int) := by
  have hc255 := le1 ((L d).drop 5)
  have := bt_le d 5
  rw [hc] at this
  rw [show (5 : Int) = ((5 : Nat) : Int) from rfl, this, w64 (by omega) (by omega)]
theorem rb (d : ByteArray) (pos S : Nat) (hS : le (((L d).drop pos).take 1) = S) : wrap64 (bt d (pos : Int)) = (S : Int) := by
  have h := le1 ((L d).drop pos)
  rw [bt_le, hS, w64 (by omega) (by omega)]
/-- One step of the reference's Decode, where it refuses nothing. -/
theorem rhead (sz : Nat) (d p : ByteArray) (a b : Int) (acc : List S32) (pos i c S M : Nat) (hd : d.size = sz) (hsz : sz ≤ 512) (h6 : 6 ≤ sz) (hc : le (((L d).drop 5).take 1) = c) (hi : i < c) (hacc : acc.length ≤ 1000)
    (hS : le (((L d).drop pos).take 1) = S) (hM : le (((L d).drop (pos + 1)).take 1) = M) (h1 : pos + 2 ≤ sz) (h2 : S ≤ p.size) (h3 : pos + 6 + M ≤ sz) (k : Nat) :
    dasdref20_Decode.l0 (k + 1) (sz : Int) d (pos : Int) p (i : Int) a b acc = dasdref20_Decode.l0 k (sz : Int) d ((pos + 6 + M : Nat) : Int) (kP p ((L d).drop pos)) ((i + 1 : Nat) : Int) a b
      (acc ++ [⟨kP p ((L d).drop pos), ((le ((tl ((L d).drop pos)).take 4) : Nat) : Int)⟩]) := by
  have hi255 : c ≤ 255 := by have := le1 ((L d).drop 5); omega
  have c1 : (5 : Int) < (d.size : Int) := by omega
  have c2 : (i : Int) < (c : Int) := by omega
  have c3 : ¬ ((pos + 2 : Nat) : Int) > (sz : Int) := by omega
  have c4 : 0 ≤ (pos : Int) := by omega
  have c5 : (pos : Int) < (d.size : Int) := by omega
  have c6 : 0 ≤ ((pos + 1 : Nat) : Int) := by omega
  have c7 : ((pos + 1 : Nat) : Int) < (d.size : Int) := by omega
  have c8 : ¬ (S : Int) > (p.size : Int) := by omega
  have c9 : ¬ ((pos + 6 + M : Nat) : Int) > (sz : Int) := by omega
  have c10 : 0 ≤ (S : Int) := by omega
  have c11 : (S : Int) ≤ (p.size : Int) := by omega
  have c12 : 0 ≤ ((pos + 2 : Nat) : Int) := by omega
  have c13 : ((pos + 2 : Nat) : Int) ≤ ((pos + 2 + M : Nat) : Int) := by omega
  have c14 : ((pos + 2 + M : Nat) : Int) ≤ (d.size : Int) := by omega
  have c15 : ([] : List S32).length + acc.length < 5864062014805 := by show 0 + acc.length < _; omega
  have c16 : ([] ++ acc : List S32).length < 5864062014805 := by rw [List.nil_append]; omega
  have q4 : pos + 2 + M + 4 ≤ d.size := by omega
  have q5 : d.size ≤ 1000 := by omega
  rw [dasdref20_Decode.l0, rb5 d c hc, show wrap64 ((pos : Int) + 1) = ((pos + 1 : Nat) : Int) from (w64 (by omega) (by omega)).trans (by omega), show wrap64 ((pos : Int) + 2) = ((pos + 2 : Nat) : Int) from (w64 (by omega) (by omega)).trans (by omega), rb d pos S hS, rb d (pos + 1) M hM, show wrap64 (((pos + 2 : Nat) : Int) + (M : Int)) = ((pos + 2 + M : Nat) : Int) from (w64 (by omega) (by omega)).trans (by omega), show wrap64 (((pos + 2 + M : Nat) : Int) + 4) = ((pos + 6 + M : Nat) : Int) from (w64 (by omega) (by omega)).trans (by omega), show wrap64 ((pos : Int) + 6) = ((pos + 6 : Nat) : Int) from (w64 (by omega) (by omega)).trans (by omega), show wrap64 (((pos + 6 : Nat) : Int) + (M : Int)) = ((pos + 6 + M : Nat) : Int) from (w64 (by omega) (by omega)).trans (by omega), show wrap64 ((i : Int) + 1) = ((i + 1 : Nat) : Int) from (w64 (by omega) (by omega)).trans (by omega)]
  have en4 := rnum d (pos + 2 + M) q4 q5
  rw [rtl d pos M hM] at en4
  have ek := rkey d p pos S M hS hM
  have hk := kP_size p ((L d).drop pos)
  generalize kP p ((L d).drop pos) = K at *
  generalize p.extract 0 (S : Int).toNat = X at *
  generalize d.extract ((pos + 2 : Nat) : Int).toNat ((pos + 2 + M : Nat) : Int).toNat = Y at *
  generalize le ((tl ((L d).drop pos)).take 4) = G at *
  have es : X.size + Y.size ≤ 9223372036854775807 := by rw [← ByteArray.size_append, ek]; exact Nat.le_trans hk (by decide)
  rw [if_pos c1, if_pos c2, if_neg c3, if_pos c4, if_pos c5, if_pos c6, if_pos c7, if_neg c8, if_neg c9, if_pos c10, if_pos c11, if_pos c12, if_pos c13, if_pos c14, if_pos es,
    Option.bind_some, if_pos c15, Option.bind_some, en4, Option.bind_some, if_pos c16, ek]
  rfl
/-- A step where the reference's Decode refuses. -/
theorem rrej (sz : Nat) (d p : ByteArray) (a b : Int) (acc : List S32) (pos i c S M : Nat) (hd : d.size = sz) (hsz : sz ≤ 512) (h6 : 6 ≤ sz) (hc : le (((L d).drop 5).take 1) = c) (hi : i < c) (hpos : pos ≤ 1000000)
    (hS : le (((L d).drop pos).take 1) = S) (hM : le (((L d).drop (pos + 1)).take 1) = M) (h : ¬ (pos + 2 ≤ sz ∧ S ≤ p.size ∧ pos + 6 + M ≤ sz)) (k : Nat) :
    dasdref20_Decode.l0 (k + 1) (sz : Int) d (pos : Int) p (i : Int) a b acc = some (0, 0, [], 11) := by
  have hM255 : M ≤ 255 := by have := le1 ((L d).drop (pos + 1)); omega
  rw [dasdref20_Decode.l0, rb5 d c hc, show wrap64 ((pos : Int) + 1) = ((pos + 1 : Nat) : Int) from (w64 (by omega) (by omega)).trans (by omega), show wrap64 ((pos : Int) + 2) = ((pos + 2 : Nat) : Int) from (w64 (by omega) (by omega)).trans (by omega), rb d pos S hS, rb d (pos + 1) M hM, show wrap64 (((pos + 2 : Nat) : Int) + (M : Int)) = ((pos + 2 + M : Nat) : Int) from (w64 (by omega) (by omega)).trans (by omega), show wrap64 (((pos + 2 + M : Nat) : Int) + 4) = ((pos + 6 + M : Nat) : Int) from (w64 (by omega) (by omega)).trans (by omega), if_pos (show (5 : Int) < (d.size : Int) by omega), if_pos (show (i : Int) < (c : Int) by omega)]
  by_cases c1 : pos + 2 ≤ sz
  · rw [if_neg (show ¬ ((pos + 2 : Nat) : Int) > (sz : Int) by omega), if_pos (show 0 ≤ (pos : Int) by omega), if_pos (show (pos : Int) < (d.size : Int) by omega), if_pos (show 0 ≤ ((pos + 1 : Nat) : Int) by omega), if_pos (show ((pos + 1 : Nat) : Int) < (d.size : Int) by omega)]
    by_cases c2 : S ≤ p.size
    · rw [if_neg (show ¬ (S : Int) > (p.size : Int) by omega), if_pos (show ((pos + 6 + M : Nat) : Int) > (sz : Int) by omega)]
    · rw [if_pos (show (S : Int) > (p.size : Int) by omega)]
  · rw [if_pos (show ((pos + 2 : Nat) : Int) > (sz : Int) by omega)]
theorem rend_ev (sz : Nat) (d p : ByteArray) (a b : Int) (acc : List S32) (pos c : Nat) (hd : d.size = sz) (h6 : 6 ≤ sz) (hc : le (((L d).drop 5).take 1) = c) (hacc : acc.length ≤ 1000) :
    Ev (fun k => dasdref20_Decode.l0 k (sz : Int) d (pos : Int) p (c : Int) a b acc) (fin sz d a b acc) := by
  have hc255 := le1 ((L d).drop 5)
  have b5 : wrap64 (bt d 5) = (c : Int) := by
    have := bt_le d 5
    rw [hc] at this
    rw [show (5 : Int) = ((5 : Nat) : Int) from rfl, this, w64 (by omega) (by omega)]
  have e := fin_of sz d a b acc (renc_ev sz a b acc (by omega))
  refine Ev.step (fun k => ?_) e
  rw [dasdref20_Decode.l0, b5, if_pos (by omega), if_neg (by omega)]
/-- Where the bytes are no node's, the reference's Decode refuses. -/
theorem rsound (sz : Nat) (d : ByteArray) (a b : Int) (c : Nat) (hd : d.size = sz) (hsz : sz ≤ 512) (h6 : 6 ≤ sz) (hc : le (((L d).drop 5).take 1) = c) (hno : ∀ a b l, enc sz a b l ≠ (d, 0)) (n : Nat) :
    ∀ (i pos : Nat) (p : ByteArray) (acc : List S32), c = i + n → acc.length = i → pos ≤ 6 + 261 * i → Ev (fun k => dasdref20_Decode.l0 k (sz : Int) d (pos : Int) p (i : Int) a b acc) (0, 0, [], 11) := by
  have hc255 := le1 ((L d).drop 5)
  induction n with
  | zero =>
    intro i pos p acc h1 h2 h3
    have := rend_ev sz d p a b acc pos c hd h6 hc (by omega)
    unfold fin at this
    rw [if_neg (hno a b acc), h1, Nat.add_zero] at this
    exact this
  | succ n ih =>
    intro i pos p acc h1 h2 h3
    by_cases h : pos + 2 ≤ sz ∧ le (((L d).drop pos).take 1) ≤ p.size ∧ pos + 6 + le (((L d).drop (pos + 1)).take 1) ≤ sz
    · have hM := le1 ((L d).drop (pos + 1))
      refine Ev.step (fun k => rhead sz d p a b acc pos i c _ _ hd hsz h6 hc (by omega) (by omega) rfl rfl h.1 h.2.1 h.2.2 k) ?_
      exact ih (i + 1) _ _ _ (by omega) (by rw [List.length_append, h2]; rfl) (by omega)
    · exact Ev.step (f := fun _ => some _) (fun k => rrej sz d p a b acc pos i c _ _ hd hsz h6 hc (by omega) (by omega) rfl rfl h k) (Ev.now _)
/-- Where the bytes are a node's, it reads the node. -/
theorem rgood (sz : Nat) (d : ByteArray) (a b : Int) (c : Nat) (hd : d.size = sz) (hsz : sz ≤ 512) (h6 : 6 ≤ sz) (hc : le (((L d).drop 5).take 1) = c) (z : List UInt8) : ∀ (l : List S32) (i pos : Nat) (p : ByteArray) (acc : List S32), c = i + l.length → acc.length = i → p.size ≤ 32 →
    (∀ x ∈ l, x.f0.size ≤ 32 ∧ 1 ≤ x.f1 ∧ x.f1 ≤ 16777216) → (L d).drop pos = encA p l ++ z → pos ≤ sz → Ev (fun k => dasdref20_Decode.l0 k (sz : Int) d (pos : Int) p (i : Int) a b acc) (fin sz d a b (acc ++ l)) := by
  have hc255 := le1 ((L d).drop 5)
  intro l
  induction l with
  | nil =>
    intro i pos p acc h1 h2 h3 h4 h5 h7
    have := rend_ev sz d p a b acc pos c hd h6 hc (by omega)
    rw [h1] at this
    rw [List.append_nil]
    exact this
  | cons x l ih =>
    intro i pos p acc h1 h2 h3 h4 h5 h7
    rw [encA, List.append_assoc] at h5
    rw [List.length_cons] at h1
    obtain ⟨k1, k2, k3⟩ := pP_enc1 p x (encA x.f0 l ++ z) (h4 x (by simp))
    have hx := h4 x (by simp)
    have hcf := cf_le (L p) (L x.f0)
    rw [L_len, L_len] at hcf
    have hlen := congrArg List.length h5
    rw [List.length_drop, L_len, List.length_append, hd] at hlen
    have he := enc1_len p x
    have r1 : le (((L d).drop pos).take 1) = cf (L p) (L x.f0) := by
      rw [h5]
      unfold enc1
      show le [u (cf (L p) (L x.f0) : Nat)] = _
      have := le_one (x := ((cf (L p) (L x.f0) : Nat) : Int)) (by omega) (by omega)
      omega
    have r2 : le (((L d).drop (pos + 1)).take 1) = x.f0.size - cf (L p) (L x.f0) := by
      rw [← List.drop_drop, h5]
      unfold enc1
      show le [u ((x.f0.size : Int) - (cf (L p) (L x.f0) : Nat))] = _
      have := le_one (x := (x.f0.size : Int) - ((cf (L p) (L x.f0) : Nat) : Int)) (by omega) (by omega)
      omega
    have hx1 := hx.1
    refine Ev.step (fun k => rhead sz d p a b acc pos i c _ _ hd hsz h6 hc (by omega) (by omega) rfl rfl (by omega) (by omega) (by omega) k) ?_
    rw [h5, k1, k2]
    have hnext : (L d).drop (pos + 6 + le (((L d).drop (pos + 1)).take 1)) = encA x.f0 l ++ z := by
      rw [← k3, ← h5]
      unfold tl
      rw [List.drop_drop, List.drop_drop, List.drop_drop, List.drop_drop]
      congr 1
      omega
    have := ih (i + 1) (pos + 6 + le (((L d).drop (pos + 1)).take 1)) x.f0 (acc ++ [⟨x.f0, x.f1⟩]) (by omega) (by rw [List.length_append, h2]; rfl) hx.1 (fun y hy => h4 y (by simp [hy])) hnext (by omega)
    rw [List.append_assoc] at this
    exact this
theorem rdec_ev (sz : Int) (d : ByteArray) : Ev (fun k => dasdref20_Decode.f k sz d) (decP sz d) := by
  unfold dasdref20_Decode.f
  rw [risSize_f]
  cases hz : okS sz with
  | false =>
    unfold decP
    rw [hz, if_neg (show ¬ false = true by simp)]
    exact Ev.congr (fun k => by rw [Option.bind_some, if_neg (by simp)]) (Ev.now _)
  | true =>
    have hze := of_decide_eq_true hz
    refine Ev.congr (fun k => by rw [Option.bind_some, if_pos rfl]) ?_
    by_cases hd : (d.size : Int) = sz
    · obtain ⟨n, hn⟩ : ∃ n : Nat, sz = (n : Int) := ⟨sz.toNat, by omega⟩
      subst hn
      refine Ev.congr (fun k => (if_pos hd).trans (if_pos (by omega))) ?_
      have hn : dasdref20_number.f d 1 = some ((nB d : Nat) : Int) := rnum d 1 (by omega) (by omega)
      have hb : wrap64 (bt d 0) = ((nA d : Nat) : Int) := by
        have h0 : le (((L d).drop 0).take 1) = nA d := rfl
        have := bt_le d 0
        rw [h0] at this
        have h1 : nA d ≤ 255 := le1 _
        rw [show (0 : Int) = ((0 : Nat) : Int) from rfl, this, w64 (by omega) (by omega)]
      refine Ev.congr (f := fun k => dasdref20_Decode.l0 k (n : Int) d 6 (⟨#[]⟩ : ByteArray) 0 ((nA d : Nat) : Int) ((nB d : Nat) : Int) ([] : List S32)) (fun k => by rw [hn, Option.bind_some, hb]) ?_
      by_cases H : ∃ a b l, enc n a b l = (d, 0)
      · obtain ⟨a, b, l, h⟩ := H
        rw [decP_enc h]
        obtain ⟨r1, r2, r3, z, r4⟩ := read_back h
        obtain ⟨g1, g2, g3, g4⟩ := enc_some h
        have := rgood n d (nA d) (nB d) (nL d) (by omega) (by omega) (by omega) rfl z l 0 6 ⟨#[]⟩ [] (by omega) rfl (Nat.zero_le _) (fine g2).mem r4 (by omega)
        unfold fin at this
        rw [r1, r2, List.nil_append, if_pos h] at this
        rw [r1, r2]
        exact this
      · have hno : ∀ a b l, enc n a b l ≠ (d, 0) := fun a b l h => H ⟨a, b, l, h⟩
        have hdec : decP n d = (0, 0, [], 11) := by
          unfold decP fin
          rw [hz, if_pos rfl, if_neg (hno _ _ _)]
        rw [hdec]
        exact rsound n d (nA d) (nB d) (nL d) (by omega) (by omega) (by omega) rfl hno (nL d) 0 6 ⟨#[]⟩ [] (by omega) rfl (by omega)
    · refine Ev.congr (fun k => if_neg hd) ?_
      have hdec : decP sz d = (0, 0, [], 11) := by
        unfold decP fin
        rw [hz, if_pos rfl, if_neg (fun h => hd (enc_size h))]
      rw [hdec]
      exact Ev.now _
end Go.Proofs.Ytffkgdaookidbaa.Form
