/-
Unpacking the blocks of records returns them; no block is longer than its size, and no smaller number of blocks has room for them: the law FixedReturns answers true, for any two numbers and any texts.
-/
import Derived.Test.YtginemabhdjmfaaXFx17
import Derived.Test.YtginemabhdjmfaaRecs
set_option linter.unusedVariables false
namespace Go.Proofs.Ytginemabhdjmfaa.Pure
open Go.RowKit Go.Proofs.Ytginemabhdjmfaa.XFx Go.Proofs.Ytginemabhdjmfaa.Base Go.Proofs.YtginemabhdjmfaaW.PrintWords Go.Proofs.YtginemabhdjmfaaW.PrintLast Go.Proofs.YtginemabhdjmfaaW.PrintMore

theorem blk_get (m : Nat) (hm : 1 ≤ m) : ∀ (i : Nat) (l : List ByteArray) (h : i < (blk m l).length), (blk m l)[i] = cat ((l.drop (i * m)).take m) ∧ i * m < l.length
  | i, l, h => by
    have e : l ≠ [] := by
      rintro rfl
      rw [blk_nil] at h
      cases h
    have h0 : 0 < l.length := List.length_pos_iff.mpr e
    match i, h with
    | 0, h =>
      simp only [blk_cut m hm l e, List.getElem_cons_zero, Nat.zero_mul, List.drop_zero]
      exact ⟨trivial, h0⟩
    | i + 1, h =>
      have h' := h
      rw [blk_cut m hm l e, List.length_cons] at h'
      obtain ⟨h1, h2⟩ := blk_get m hm i (l.drop m) (by omega)
      simp only [blk_cut m hm l e, List.getElem_cons_succ, h1, List.drop_drop]
      rw [List.length_drop] at h2
      rw [Nat.succ_mul]
      exact ⟨by rw [Nat.add_comm], by omega⟩
theorem ret_l0 (a b : Int) (hv : vld a b = true) (l : List ByteArray) (hl : l.length ≤ 40) (hs : ∀ x ∈ l, (x.size : Int) = a) (d : Nat) : ∀ i : Nat, (blk (mst a b).toNat l).length = i + d →
    Ev (fun k => dasdlaw10_FixedReturns.l0 k a b l (l.take (i * (mst a b).toNat)) (blk (mst a b).toNat l) ((blk (mst a b).toNat l).length : Int) (i : Int)) true := by
  have hm := mst_pos hv
  have hb := vld_true hv
  have hbl := blk_len (mst a b).toNat (by omega) l.length l (Nat.le_refl _)
  induction d with
  | zero =>
    intro i hi
    rw [show i = (blk (mst a b).toNat l).length by omega, List.take_of_length_le hbl.2.1]
    refine Ev.step (f := fun k => (dasdref10_Same.f k l l).bind fun t => some t) (fun k => ?_) (Ev.bind (same_ev l (by omega)) (Ev.now _))
    simp only [dasdlaw10_FixedReturns.l0]
    rw [if_neg (by omega)]
  | succ d ih =>
    intro i hi
    obtain ⟨hg, hlt⟩ := blk_get (mst a b).toNat (by omega) i l (by omega)
    have hmul := mst_mul hv
    obtain ⟨hu, hsz⟩ := unp_cat a b hv ((l.drop (i * (mst a b).toNat)).take (mst a b).toNat) (fun x hx => hs x (List.mem_of_mem_drop (List.mem_of_mem_take hx))) (by rw [List.length_take, List.length_drop]; omega) (by rw [List.length_take]; omega)
    have hblk : (cat ((l.drop (i * (mst a b).toNat)).take (mst a b).toNat)).size ≤ b.toNat := by
      rw [hsz]
      exact Nat.le_trans (Nat.mul_le_mul_right _ (by rw [List.length_take]; omega)) hmul
    have hnext : l.take (i * (mst a b).toNat) ++ (l.drop (i * (mst a b).toNat)).take (mst a b).toNat = l.take ((i + 1) * (mst a b).toNat) := by
      rw [Nat.succ_mul, List.take_add]
    have hun := unpack_ev a b (cat ((l.drop (i * (mst a b).toNat)).take (mst a b).toNat)) (by omega)
    rw [hu] at hun
    refine Ev.step (f := fun k => (fixed_Unpack.f k a b (cat ((l.drop (i * (mst a b).toNat)).take (mst a b).toNat))).bind fun bt256 => (if bt256.2 = 0 then (if ((cat ((l.drop (i * (mst a b).toNat)).take (mst a b).toNat)).size : Int) > b then (some false) else (if (l.take (i * (mst a b).toNat)).length + bt256.1.length < 8796093022208 then (dasdlaw10_FixedReturns.l0 k a b l (l.take (i * (mst a b).toNat) ++ bt256.1) (blk (mst a b).toNat l) ((blk (mst a b).toNat l).length : Int) ((i + 1 : Nat) : Int)) else (none))) else (some false))) (fun k => ?_) ?_
    · simp only [dasdlaw10_FixedReturns.l0]
      rw [if_pos (by omega), if_pos (by omega), if_pos (by omega), rd_at _ i (by omega), hg, w64 (by omega) (by omega)]
      rfl
    · refine Ev.bind hun ?_
      refine Ev.congr (fun k => ?_) (ih (i + 1) (by omega))
      simp only [if_true]
      rw [if_neg (by omega), if_pos (by rw [List.length_take, List.length_take, List.length_drop]; omega), hnext]

theorem FixedReturns (a b : Int) (l : List ByteArray) (_ : (Lit.int .i64 a).wf = true) (_ : (Lit.int .i64 b).wf = true) (hl : l.length ≤ 9223372036854775807) : ∃ k, dasdlaw10_FixedReturns.f k a b l = some true := by
  apply Ev.rounds
  have yes : Ev (fun k => dasdlaw10_FixedReturns.j0 k a b l true) true := by
    refine Ev.step (f := fun k => (dasdlaw10_awake.f k).bind fun t => some t) (fun k => ?_) (Ev.bind awake_ev (Ev.now _))
    simp only [dasdlaw10_FixedReturns.j0, if_true]
  unfold dasdlaw10_FixedReturns.f
  refine Ev.bind awake_ev ?_
  simp only [if_true]
  obtain ⟨r, hr, hfew⟩ := few_ev l 40 300 hl
  refine Ev.bind hr ?_
  cases r with
  | false => exact yes
  | true =>
    obtain ⟨h1, h2⟩ := hfew rfl
    simp only [if_true]
    rw [valid_f]
    simp only [Option.bind_some]
    cases hv : vld a b with
    | false => exact yes
    | true =>
      have hm := mst_pos hv
      have hrec := records_ev a l (by omega) (fun x hx => by have := h1 x hx; omega)
      have hsz := recs_size a b hv l
      have hlen : (l.map (pad (padn a))).length ≤ 40 := by rw [List.length_map]; omega
      generalize l.map (pad (padn a)) = q at hrec hsz hlen
      have hp := pack_ev a b hv q (by omega) hsz
      have hl0 := ret_l0 a b hv q hlen hsz (blk (mst a b).toNat q).length 0 (by omega)
      rw [Nat.zero_mul, List.take_zero] at hl0
      have hbl := blk_len (mst a b).toNat (by omega) q.length q (Nat.le_refl _)
      obtain ⟨M, hM⟩ := Int.eq_ofNat_of_zero_le (show 0 ≤ mst a b by omega)
      rw [hM, Int.toNat_natCast] at hp hl0 hbl
      have hj1 : Ev (fun k => dasdlaw10_FixedReturns.j1 k a b q (blk M q) false) true := by
        refine Ev.step (fun k => ?_) hl0
        simp only [dasdlaw10_FixedReturns.j1, Bool.false_eq_true, if_false]
        rfl
      refine Ev.step (f := fun k => (dasdlaw10_records.f k a l).bind fun t243 => ((fixed_Pack.f k a b t243).bind fun bt246 => (if bt246.2 = 0 then ((fixed_Most.f a b).bind fun t250 => (if (wrap64 ((bt246.1.length : Int) * t250)) < (t243.length : Int) then (dasdlaw10_FixedReturns.j1 k a b t243 bt246.1 true) else ((fixed_Most.f a b).bind fun t251 => (dasdlaw10_FixedReturns.j1 k a b t243 bt246.1 (decide ((wrap64 ((wrap64 ((bt246.1.length : Int) - 1)) * t251)) ≥ (mx 1 (t243.length : Int)))))))) else (dasdlaw10_FixedReturns.j1 k a b t243 bt246.1 true)))) (fun k => ?_) ?_
      · simp only [dasdlaw10_FixedReturns.j0, Bool.not_true, Bool.false_eq_true, if_false]
      refine Ev.bind hrec ?_
      refine Ev.bind hp ?_
      refine Ev.congr (fun k => ?_) hj1
      simp only [if_true]
      rw [most_f, hM]
      rw [Option.bind_some]
      show (if wrap64 (((blk M q).length : Int) * (M : Int)) < (q.length : Int) then dasdlaw10_FixedReturns.j1 k a b q (blk M q) true else dasdlaw10_FixedReturns.j1 k a b q (blk M q) (decide ((wrap64 ((wrap64 (((blk M q).length : Int) - 1)) * (M : Int))) ≥ (mx 1 (q.length : Int))))) = _
      generalize hB : (blk M q).length = n at hbl ⊢
      obtain ⟨p, hpe⟩ : ∃ p, n * M = p := ⟨_, rfl⟩
      obtain ⟨s, hse⟩ : ∃ s, (n - 1) * M = s := ⟨_, rfl⟩
      have hpl : p ≤ 40960 := by
        rw [← hpe]
        exact Nat.le_trans (Nat.mul_le_mul (show n ≤ 40 by omega) (show M ≤ 1024 by omega)) (by decide)
      have hsl : s ≤ 40960 := by
        rw [← hse]
        exact Nat.le_trans (Nat.mul_le_mul (show n - 1 ≤ 40 by omega) (show M ≤ 1024 by omega)) (by decide)
      have e1 : ((n : Int) * (M : Int)) = (p : Int) := by rw [← Int.natCast_mul, hpe]
      have e2 : n ≠ 0 → ((n : Int) - 1) * (M : Int) = (s : Int) := by
        intro h0
        rw [← hse, Int.natCast_mul]
        congr 1
        omega
      have e3 : n = 0 → ((n : Int) - 1) * (M : Int) = -(M : Int) := by
        rintro rfl
        rw [show (((0 : Nat) : Int) - 1) = -1 from rfl, Int.neg_mul, Int.one_mul]
      rw [hpe, hse] at hbl
      clear hpe hse
      rw [e1, w64 (by omega) (by omega), if_neg (by omega), w64 (x := (n : Int) - 1) (by omega) (by omega)]
      congr 1
      apply decide_eq_false
      have hmx : 1 ≤ mx 1 (q.length : Int) ∧ (q.length : Int) ≤ mx 1 (q.length : Int) := by
        unfold mx
        split <;> omega
      generalize mx 1 (q.length : Int) = x at hmx ⊢
      rcases Nat.eq_zero_or_pos n with h0 | h0
      · rw [e3 h0, w64 (by omega) (by omega)]
        omega
      · have hne : q ≠ [] := by
          rintro rfl
          rw [blk_nil] at hB
          simp at hB
          omega
        have h3 := (hbl.2.2 hne).2
        rw [e2 (by omega), w64 (by omega) (by omega)]
        omega

end Go.Proofs.Ytginemabhdjmfaa.Pure
