/-
Valid, Most and Pack return what the specification says: the law FixedPacks answers true, for any two numbers and any records.
-/
import Derived.Test.YtginemabhdjmfaaXFx5
import Derived.Test.YtginemabhdjmfaaXFx6
import Derived.Test.YtginemabhdjmfaaFew
set_option linter.unusedVariables false
namespace Go.Proofs.Ytginemabhdjmfaa.Pure
open Go.RowKit Go.Proofs.Ytginemabhdjmfaa.XFx Go.Proofs.Ytginemabhdjmfaa.Base Go.Proofs.YtginemabhdjmfaaW.PrintWords Go.Proofs.YtginemabhdjmfaaW.PrintLast Go.Proofs.YtginemabhdjmfaaW.PrintMore

theorem blk_le (m : Nat) (hm : 1 ≤ m) : ∀ (n : Nat) (l : List ByteArray), l.length ≤ n → ∀ y ∈ blk m l, y.size ≤ (cat l).size
  | 0, l, h, y, hy => by
    obtain rfl : l = [] := List.eq_nil_of_length_eq_zero (by omega)
    cases hy
  | n + 1, l, h, y, hy => by
    by_cases e : l = []
    · subst e
      cases hy
    · have h0 : 0 < l.length := List.length_pos_iff.mpr e
      rw [blk_cut m hm l e] at hy
      have hc := cat_take_le l m
      rcases List.mem_cons.mp hy with rfl | hy
      · exact hc.1
      · exact Nat.le_trans (blk_le m hm n (l.drop m) (by rw [List.length_drop]; omega) y hy) hc.2
theorem nil_app (x : ByteArray) : (⟨#[]⟩ : ByteArray) ++ x = x := ba_ext (by rw [app_data]; simp)
theorem rd_last (l : List ByteArray) (b : ByteArray) : rdOf ByteArray.empty (l ++ [b]) (l.length : Int) = b := by
  rw [rd_at _ _ (by rw [List.length_append, List.length_singleton]; omega), List.getElem_append_right (Nat.le_refl _)]
  simp
theorem set_last (l : List ByteArray) (b c : ByteArray) : (l ++ [b]).set l.length c = l ++ [c] := by
  rw [List.set_append_right _ _ (Nat.le_refl _), Nat.sub_self, List.set_cons_zero]
theorem rpack_step (a b : Int) (hv : vld a b = true) (l : List ByteArray) (hl : l.length ≤ 10000) (i : Nat) (hi : i < l.length) (hs : ∀ x ∈ l.take (i + 1), (x.size : Int) = a) (k : Nat) :
    dasdref10_Pack.l0 (k + 1) a b l (blk (mst a b).toNat (l.take i)) (i : Int) = dasdref10_Pack.l0 k a b l (blk (mst a b).toNat (l.take (i + 1))) ((i + 1 : Nat) : Int) := by
  have hm := mst_pos hv
  have hb := vld_true hv
  obtain ⟨M, hM⟩ := Int.eq_ofNat_of_zero_le (show 0 ≤ mst a b by omega)
  obtain ⟨A, rfl⟩ := Int.eq_ofNat_of_zero_le (show 0 ≤ a by omega)
  have hlen : (l.take i).length = i := by rw [List.length_take]; omega
  have htake : l.take (i + 1) = l.take i ++ [l[i]] := by rw [List.take_succ_eq_append_getElem hi]
  have hx : ((l[i]).size : Int) = A := hs _ (by rw [htake]; exact List.mem_append_right _ List.mem_cons_self)
  have hcat : (cat (l.take i)).size ≤ 10000000 := by
    rw [cat_size (l.take i) A (fun x hx => by have := hs x (by rw [htake]; exact List.mem_append_left _ hx); omega), hlen]
    exact Nat.le_trans (Nat.mul_le_mul (show i ≤ 10000 by omega) (show A ≤ 1000 by omega)) (by decide)
  have hbl := blk_len M (by omega) i (l.take i) (by omega)
  obtain ⟨s0, s1⟩ := blk_snoc M (by omega) l[i] i (l.take i) (by omega)
  rw [hlen] at s0 s1
  simp only [dasdref10_Pack.l0]
  rw [hM, Int.toNat_natCast, if_pos (by omega), if_pos (by omega), rd_at l i hi, if_pos hx, rmost_f, hM]
  simp only [Option.bind_some]
  have em : Int.tmod (i : Int) (M : Int) = ((i % M : Nat) : Int) := by
    rw [Int.tmod_eq_emod_of_nonneg (by omega)]
    exact (Int.natCast_emod _ _).symm
  rw [if_neg (by omega), em, w64 (x := (i : Int) + 1) (by omega) (by omega), htake]
  generalize hB : blk M (l.take i) = B at *
  by_cases h0 : i % M = 0
  · rw [if_pos (by omega), if_pos (by omega), s0 h0, List.length_append, List.length_singleton]
    have e1 : wrap64 (((B.length + 1 : Nat) : Int) - 1) = (B.length : Int) := by
      rw [w64 (by omega) (by omega)]
      omega
    rw [e1, if_pos (by omega), if_pos (by omega), rd_last, Int.toNat_natCast, set_last, nil_app, if_pos (by rw [show (⟨#[]⟩ : ByteArray).size = 0 from rfl]; omega)]
    rfl
  · obtain ⟨a', b', hB', hB2⟩ := s1 h0
    have hb' : b'.size ≤ 10000000 := Nat.le_trans (blk_le M (by omega) i (l.take i) (by omega) b' (by rw [hB, hB']; simp)) hcat
    rw [if_neg (by omega), hB2, hB', List.length_append, List.length_singleton]
    have ha : a'.length + 1 ≤ i := by
      have := hbl.1
      rw [hB', List.length_append, List.length_singleton] at this
      omega
    have e1 : wrap64 (((a'.length + 1 : Nat) : Int) - 1) = (a'.length : Int) := by
      rw [w64 (by omega) (by omega)]
      omega
    rw [e1, if_pos (by omega), if_pos (by omega), rd_last, Int.toNat_natCast, set_last, if_pos (by omega)]
    rfl
theorem rpack_good (a b : Int) (hv : vld a b = true) (l : List ByteArray) (hl : l.length ≤ 10000) (hs : ∀ x ∈ l, (x.size : Int) = a) (d : Nat) : ∀ i : Nat, l.length = i + d →
    Ev (fun k => dasdref10_Pack.l0 k a b l (blk (mst a b).toNat (l.take i)) (i : Int)) (blk (mst a b).toNat l, 0) := by
  induction d with
  | zero =>
    intro i hi
    refine Ev.step (f := fun _ => some (blk (mst a b).toNat l, 0)) (fun k => ?_) (Ev.now _)
    rw [List.take_of_length_le (by omega)]
    simp only [dasdref10_Pack.l0]
    rw [if_neg (by omega)]
  | succ d ih =>
    intro i hi
    exact Ev.step (rpack_step a b hv l hl i (by omega) (fun x hx => hs x (List.mem_of_mem_take hx))) (ih (i + 1) (by omega))
theorem rpack_bad (a b : Int) (hv : vld a b = true) (l : List ByteArray) (hl : l.length ≤ 10000) (d : Nat) : ∀ i : Nat, l.length = i + d → (∀ x ∈ l.take i, (x.size : Int) = a) → (∃ x ∈ l.drop i, (x.size : Int) ≠ a) →
    Ev (fun k => dasdref10_Pack.l0 k a b l (blk (mst a b).toNat (l.take i)) (i : Int)) ([], 2) := by
  induction d with
  | zero =>
    intro i hi _ hx
    rw [List.drop_of_length_le (by omega)] at hx
    obtain ⟨x, hx, _⟩ := hx
    cases hx
  | succ d ih =>
    intro i hi hs hx
    have htake : l.take (i + 1) = l.take i ++ [l[i]'(by omega)] := by rw [List.take_succ_eq_append_getElem (by omega)]
    by_cases hc : ((l[i]'(by omega)).size : Int) = a
    · have hs2 : ∀ x ∈ l.take (i + 1), (x.size : Int) = a := by
        intro x hx
        rw [htake, List.mem_append, List.mem_singleton] at hx
        rcases hx with hx | rfl
        · exact hs x hx
        · exact hc
      refine Ev.step (rpack_step a b hv l hl i (by omega) hs2) (ih (i + 1) (by omega) hs2 ?_)
      obtain ⟨x, hx, hne⟩ := hx
      rw [List.drop_eq_getElem_cons (by omega)] at hx
      rcases List.mem_cons.mp hx with rfl | hx
      · exact absurd hc hne
      · exact ⟨x, hx, hne⟩
    · refine Ev.step (f := fun _ => some ([], 2)) (fun k => ?_) (Ev.now _)
      simp only [dasdref10_Pack.l0]
      rw [if_pos (by omega), if_pos (by omega), rd_at l i (by omega), if_neg hc]
/-- Both packs answer the same. -/
theorem both_packs (a b : Int) (l : List ByteArray) (hl : l.length ≤ 60) : ∃ r : List ByteArray × Int, r.1.length ≤ 60 ∧ Ev (fun k => fixed_Pack.f k a b l) r ∧ Ev (fun k => dasdref10_Pack.f k a b l) r := by
  by_cases hv : vld a b = true
  · have start : ∀ r, Ev (fun k => dasdref10_Pack.l0 k a b l [] 0) r → Ev (fun k => dasdref10_Pack.f k a b l) r := by
      intro r h
      refine Ev.congr (fun k => ?_) h
      unfold dasdref10_Pack.f
      rw [rvalid_f, hv]
      rfl
    have hm := mst_pos hv
    by_cases hs : ∀ x ∈ l, (x.size : Int) = a
    · refine ⟨_, ?_, pack_ev a b hv l (by omega) hs, start _ (rpack_good a b hv l (by omega) hs l.length 0 (by omega))⟩
      exact Nat.le_trans (blk_len (mst a b).toNat (by omega) l.length l (Nat.le_refl _)).1 hl
    · have hs2 : ∃ x ∈ l, (x.size : Int) ≠ a := by
        apply Classical.byContradiction
        intro hn
        exact hs (fun x hx => Classical.byContradiction fun hne => hn ⟨x, hx, hne⟩)
      exact ⟨_, Nat.zero_le _, pack_range a b hv l (by omega) hs2, start _ (rpack_bad a b hv l (by omega) l.length 0 (by omega) (by simp) (by simpa using hs2))⟩
  · rw [Bool.not_eq_true] at hv
    refine ⟨_, Nat.zero_le _, pack_novld a b hv l, Ev.congr (fun k => ?_) (Ev.now _)⟩
    unfold dasdref10_Pack.f
    rw [rvalid_f, hv]
    rfl

theorem FixedPacks (a b : Int) (l : List ByteArray) (_ : (Lit.int .i64 a).wf = true) (_ : (Lit.int .i64 b).wf = true) (hl : l.length ≤ 9223372036854775807) : ∃ k, dasdlaw10_FixedPacks.f k a b l = some true := by
  apply Ev.rounds
  have yes : Ev (fun k => dasdlaw10_FixedPacks.j0 k a b l true) true := by
    refine Ev.step (f := fun k => (dasdlaw10_awake.f k).bind fun t => some t) (fun k => ?_) (Ev.bind awake_ev (Ev.now _))
    simp only [dasdlaw10_FixedPacks.j0, if_true]
  unfold dasdlaw10_FixedPacks.f
  refine Ev.bind awake_ev ?_
  simp only [if_true]
  obtain ⟨r, hr, hfew⟩ := few_ev l 60 1100 hl
  refine Ev.bind hr ?_
  cases r with
  | false => exact yes
  | true =>
    obtain ⟨h1, h2⟩ := hfew rfl
    obtain ⟨q, hq, p1, p2⟩ := both_packs a b l (by omega)
    refine Ev.step (f := fun k => (fixed_Pack.f k a b l).bind fun bt153 => ((dasdref10_Pack.f k a b l).bind fun bt157 => ((fixed_Valid.f a b).bind fun t161 => ((dasdref10_Valid.f a b).bind fun t162 => (if (t161 == t162) = true then ((fixed_Most.f a b).bind fun t163 => ((dasdref10_Most.f a b).bind fun t164 => (if t163 = t164 then (if bt153.2 = bt157.2 then ((dasdref10_Same.f k bt153.1 bt157.1).bind fun t165 => (some t165)) else (some false)) else (some false)))) else (some false)))))) (fun k => ?_) ?_
    · simp only [dasdlaw10_FixedPacks.j0, Bool.not_true, Bool.false_eq_true, if_false]
    refine Ev.bind p1 ?_
    refine Ev.bind p2 ?_
    rw [valid_f, rvalid_f, most_f, rmost_f]
    simp only [Option.bind_some, beq_self_eq_true, if_true]
    exact Ev.bind (same_ev q.1 (by omega)) (Ev.now _)

end Go.Proofs.Ytginemabhdjmfaa.Pure
