/-
Adding records one by one gives their blocks: the law FixedBuilds answers true, for any two numbers and any texts.
-/
import Derived.Test.YtginemabhdjmfaaXFb2
import Derived.Test.YtginemabhdjmfaaRecs
import Derived.Test.YtginemabhdjmfaaAdd
set_option linter.unusedVariables false
namespace Go.Proofs.Ytginemabhdjmfaa.Pure
open Go.RowKit Go.Proofs.Ytginemabhdjmfaa.XFx Go.Proofs.Ytginemabhdjmfaa.Base Go.Proofs.YtginemabhdjmfaaW.PrintWords Go.Proofs.YtginemabhdjmfaaW.PrintLast Go.Proofs.YtginemabhdjmfaaW.PrintMore

theorem nil_app2 (x : ByteArray) : (⟨#[]⟩ : ByteArray) ++ x = x := ba_ext (by rw [app_data]; simp)
/-- To a block that is not full. -/
theorem addp_room (a b : Int) (hv : vld a b = true) (rs : List ByteArray) (s : ByteArray) (hs : ∀ x ∈ rs, (x.size : Int) = a) (hx : (s.size : Int) = a) (h1 : (rs.length : Int) < mst a b) : addp a b (cat rs) s = (cat rs ++ s, true) := by
  unfold addp
  rw [if_pos ⟨hv, hx⟩]
  by_cases h0 : (cat rs).size = 0
  · rw [if_pos h0]
  · rw [if_neg h0]
    have hne : 1 ≤ rs.length := by
      rcases Nat.eq_zero_or_pos rs.length with h | h
      · obtain rfl := List.eq_nil_of_length_eq_zero h
        exact absurd rfl h0
      · exact h
    rw [(unp_cat a b hv rs hs hne (by omega)).1, if_pos rfl, if_neg (by simp; omega)]
/-- To a full block. -/
theorem addp_full (a b : Int) (hv : vld a b = true) (rs : List ByteArray) (s : ByteArray) (hs : ∀ x ∈ rs, (x.size : Int) = a) (hx : (s.size : Int) = a) (h1 : (rs.length : Int) = mst a b) : addp a b (cat rs) s = (⟨#[]⟩, false) := by
  have hm := mst_pos hv
  have hb := vld_true hv
  obtain ⟨hu, hsz⟩ := unp_cat a b hv rs hs (by omega) (by omega)
  have h0 : (cat rs).size ≠ 0 := by
    have : 1 * 1 ≤ rs.length * a.toNat := Nat.mul_le_mul (by omega) (by omega)
    omega
  unfold addp
  rw [if_pos ⟨hv, hx⟩, if_neg h0, hu, if_pos rfl, if_pos h1]

/-- What the loop holds behind the first i records. -/
def Holds (a b : Int) (l : List ByteArray) (i : Nat) (out : List ByteArray) (last : ByteArray) : Prop :=
  (i = 0 ∧ out = [] ∧ last = ⟨#[]⟩) ∨ ∃ rs : List ByteArray, last = cat rs ∧ 1 ≤ rs.length ∧ (rs.length : Int) ≤ mst a b ∧ rs.length % (mst a b).toNat = i % (mst a b).toNat ∧ (∀ x ∈ rs, (x.size : Int) = a) ∧ blk (mst a b).toNat (l.take i) = out ++ [last]

theorem builds_l0 (a b : Int) (hv : vld a b = true) (l : List ByteArray) (hl : l.length ≤ 40) (hs : ∀ x ∈ l, (x.size : Int) = a) (d : Nat) : ∀ (i : Nat) (out : List ByteArray) (last : ByteArray), l.length = i + d → out.length ≤ i → Holds a b l i out last →
    Ev (fun k => XFb.dasdlaw10_FixedBuilds.l0 k a b l out last l (l.length : Int) (i : Int)) true := by
  have hm := mst_pos hv
  have hb := vld_true hv
  obtain ⟨M, hM⟩ := Int.eq_ofNat_of_zero_le (show 0 ≤ mst a b by omega)
  have hp : Ev (fun k => XFb.fixed_Pack.f k a b l) (blk (mst a b).toNat l, 0) := pack_ev a b hv l (by omega) hs
  have hbl := blk_len (mst a b).toNat (by omega) l.length l (Nat.le_refl _)
  induction d with
  | zero =>
    intro i out last hi ho h
    rcases h with ⟨rfl, rfl, rfl⟩ | ⟨rs, rfl, h1, h2, h3, h4, h5⟩
    · obtain rfl : l = [] := List.eq_nil_of_length_eq_zero (by omega)
      rw [blk_nil] at hp
      refine Ev.step (f := fun k => (XFb.fixed_Pack.f k a b []).bind fun bt119 => (if bt119.2 = 0 then ((dasdref10_Same.f k [] bt119.1).bind fun t123 => (some t123)) else (some false))) (fun k => ?_) ?_
      · simp only [XFb.dasdlaw10_FixedBuilds.l0]
        rw [if_neg (by omega), if_pos ((empty_iff _).mpr rfl)]
      · refine Ev.bind hp ?_
        simp only [if_true]
        exact Ev.bind (same_ev [] (by simp)) (Ev.now _)
    · rw [List.take_of_length_le (by omega)] at h5
      rw [h5] at hp
      have hne : ¬ (cat rs).toList = ([] : List UInt8) := by
        rw [empty_iff, (unp_cat a b hv rs h4 h1 h2).2]
        have : 1 * 1 ≤ rs.length * a.toNat := Nat.mul_le_mul (by omega) (by omega)
        omega
      refine Ev.step (f := fun k => (XFb.fixed_Pack.f k a b l).bind fun bt127 => (if bt127.2 = 0 then ((dasdref10_Same.f k (out ++ [cat rs]) bt127.1).bind fun t131 => (some t131)) else (some false))) (fun k => ?_) ?_
      · simp only [XFb.dasdlaw10_FixedBuilds.l0]
        rw [if_neg (by omega), if_neg hne, if_pos (by omega)]
      · refine Ev.bind hp ?_
        simp only [if_true]
        exact Ev.bind (same_ev _ (by rw [List.length_append, List.length_singleton]; omega)) (Ev.now _)
  | succ d ih =>
    intro i out last hi ho h
    have hx : ((l[i]'(by omega)).size : Int) = a := hs _ (List.getElem_mem _)
    have htake : l.take (i + 1) = l.take i ++ [l[i]'(by omega)] := by rw [List.take_succ_eq_append_getElem (by omega)]
    have hlen : (l.take i).length = i := by rw [List.length_take]; omega
    obtain ⟨s0, s1⟩ := blk_snoc (mst a b).toNat (by omega) (l[i]'(by omega)) i (l.take i) (by omega)
    rw [hlen, ← htake] at s0 s1
    rw [hM, Int.toNat_natCast] at s0 s1
    -- one round
    have round : ∀ (p : ByteArray × Bool), Ev (fun k => fixed_Add.f k a b last (l[i]'(by omega))) p →
        Ev (fun k => if p.2 = true then (XFb.dasdlaw10_FixedBuilds.l0 k a b l out p.1 l (l.length : Int) ((i + 1 : Nat) : Int)) else (if out.length < 8796093022208 then ((fixed_Add.f k a b (⟨#[]⟩ : ByteArray) (l[i]'(by omega))).bind fun bt117 => (if bt117.2 = true then (XFb.dasdlaw10_FixedBuilds.l0 k a b l (out ++ [last]) bt117.1 l (l.length : Int) ((i + 1 : Nat) : Int)) else (some false))) else (none))) true →
        Ev (fun k => XFb.dasdlaw10_FixedBuilds.l0 k a b l out last l (l.length : Int) (i : Int)) true := by
      intro p hadd h
      refine Ev.step (f := fun k => (fixed_Add.f k a b last (l[i]'(by omega))).bind fun bt112 => (if bt112.2 = true then (XFb.dasdlaw10_FixedBuilds.l0 k a b l out bt112.1 l (l.length : Int) ((i + 1 : Nat) : Int)) else (if out.length < 8796093022208 then ((fixed_Add.f k a b (⟨#[]⟩ : ByteArray) (l[i]'(by omega))).bind fun bt117 => (if bt117.2 = true then (XFb.dasdlaw10_FixedBuilds.l0 k a b l (out ++ [last]) bt117.1 l (l.length : Int) ((i + 1 : Nat) : Int)) else (some false))) else (none)))) (fun k => ?_) (Ev.bind hadd h)
      simp only [XFb.dasdlaw10_FixedBuilds.l0]
      rw [if_pos (by omega), if_pos (by omega), if_pos (by omega), rd_at l i (by omega), w64 (by omega) (by omega)]
      rfl
    have room : ∀ (rs : List ByteArray), last = cat rs → (∀ x ∈ rs, (x.size : Int) = a) → (rs.length : Int) < mst a b → Holds a b l (i + 1) out (last ++ l[i]'(by omega)) → Ev (fun k => XFb.dasdlaw10_FixedBuilds.l0 k a b l out last l (l.length : Int) (i : Int)) true := by
      intro rs e h4 hlt hh
      have hsz : last.size ≤ 1100000 := by
        rw [e, cat_size rs a.toNat (fun x hx => by have := h4 x hx; omega)]
        exact Nat.le_trans (Nat.mul_le_mul (show rs.length ≤ 1024 by omega) (show a.toNat ≤ 1000 by omega)) (by decide)
      have hadd := add_ev a b last (l[i]'(by omega)) (by omega) (by omega)
      rw [show addp a b last (l[i]'(by omega)) = (last ++ l[i]'(by omega), true) by rw [e]; exact addp_room a b hv rs _ h4 hx hlt] at hadd
      refine round _ hadd ?_
      simp only [if_true]
      exact ih (i + 1) out _ (by omega) (by omega) hh
    rcases h with ⟨rfl, rfl, rfl⟩ | ⟨rs, rfl, h1, h2, h3, h4, h5⟩
    · refine room [] rfl (fun x hx => by cases hx) (by simp; omega) ?_
      rw [nil_app2]
      refine .inr ⟨[l[0]'(by omega)], (cat_one _).symm, by simp, by simp; omega, rfl, fun x hx => by rw [List.mem_singleton] at hx; subst hx; assumption, ?_⟩
      rw [hM, Int.toNat_natCast, s0 (Nat.zero_mod _), List.take_zero, blk_nil]
    · rw [hM] at h2
      rw [hM, Int.toNat_natCast] at h3 h5
      by_cases hmod : i % M = 0
      · -- the last block is full
        have hr : rs.length = M := by
          rcases Nat.lt_or_ge rs.length M with h | h
          · rw [Nat.mod_eq_of_lt h] at h3
            omega
          · omega
        have hsz : (cat rs).size ≤ 1100000 := by
          rw [cat_size rs a.toNat (fun x hx => by have := h4 x hx; omega)]
          exact Nat.le_trans (Nat.mul_le_mul (show rs.length ≤ 1024 by omega) (show a.toNat ≤ 1000 by omega)) (by decide)
        have hadd := add_ev a b (cat rs) (l[i]'(by omega)) (by omega) (by omega)
        rw [addp_full a b hv rs _ h4 hx (by omega)] at hadd
        have hadd2 := add_ev a b (⟨#[]⟩ : ByteArray) (l[i]'(by omega)) (Nat.zero_le _) (by omega)
        rw [show (⟨#[]⟩ : ByteArray) = cat [] from rfl, addp_room a b hv [] _ (fun x hx => by cases hx) hx (by simp; omega), show cat [] = (⟨#[]⟩ : ByteArray) from rfl, nil_app2] at hadd2
        refine round _ hadd ?_
        refine Ev.congr (f := fun k => (fixed_Add.f k a b (⟨#[]⟩ : ByteArray) (l[i]'(by omega))).bind fun bt117 => (if bt117.2 = true then (XFb.dasdlaw10_FixedBuilds.l0 k a b l (out ++ [cat rs]) bt117.1 l (l.length : Int) ((i + 1 : Nat) : Int)) else (some false))) (fun k => ?_) ?_
        · rw [if_neg (by simp), if_pos (by omega)]
        refine Ev.bind hadd2 ?_
        refine Ev.congr (fun k => if_pos rfl) ?_
        refine ih (i + 1) _ _ (by omega) (by rw [List.length_append, List.length_singleton]; omega) (.inr ⟨[l[i]'(by omega)], (cat_one _).symm, by simp, by simp; omega, ?_, fun x hx => by rw [List.mem_singleton] at hx; subst hx; assumption, ?_⟩)
        · rw [hM, Int.toNat_natCast, List.length_singleton, Nat.add_mod i 1 M, hmod, Nat.zero_add, Nat.mod_mod]
        · rw [hM, Int.toNat_natCast, s0 hmod, h5]
      · have hr : rs.length < M := by
          rcases Nat.lt_or_ge rs.length M with h | h
          · exact h
          · have : rs.length = M := by omega
            rw [this, Nat.mod_self] at h3
            omega
        refine room rs rfl h4 (by omega) (.inr ⟨rs ++ [l[i]'(by omega)], (cat_snoc _ _).symm, by rw [List.length_append, List.length_singleton]; omega, by rw [List.length_append, List.length_singleton]; omega, ?_, fun x hx => ?_, ?_⟩)
        · rw [hM, Int.toNat_natCast, List.length_append, List.length_singleton, Nat.add_mod rs.length 1 M, h3, ← Nat.add_mod]
        · rw [List.mem_append, List.mem_singleton] at hx
          rcases hx with hx | rfl
          · exact h4 x hx
          · assumption
        · obtain ⟨a', b', e1, e2⟩ := s1 hmod
          rw [hM, Int.toNat_natCast, e2]
          rw [h5] at e1
          obtain ⟨e3, e4⟩ := List.append_inj' e1 rfl
          obtain rfl := e3
          simp only [List.cons.injEq, and_true] at e4
          rw [e4]

theorem FixedBuilds (a b : Int) (l : List ByteArray) (_ : (Lit.int .i64 a).wf = true) (_ : (Lit.int .i64 b).wf = true) (hl : l.length ≤ 9223372036854775807) : ∃ k, XFb.dasdlaw10_FixedBuilds.f k a b l = some true := by
  apply Ev.rounds
  have yes : Ev (fun k => XFb.dasdlaw10_FixedBuilds.j0 k a b l true) true := by
    refine Ev.step (f := fun k => (dasdlaw10_awake.f k).bind fun t => some t) (fun k => ?_) (Ev.bind awake_ev (Ev.now _))
    simp only [XFb.dasdlaw10_FixedBuilds.j0, if_true]
  unfold XFb.dasdlaw10_FixedBuilds.f
  refine Ev.bind awake_ev ?_
  simp only [if_true]
  obtain ⟨r, hr, hfew⟩ := few_ev l 40 300 hl
  refine Ev.bind hr ?_
  cases r with
  | false => exact yes
  | true =>
    obtain ⟨h1, h2⟩ := hfew rfl
    simp only [if_true]
    rw [valid_f]
    simp only [Option.bind_some]
    cases hv : vld a b with
    | false => exact yes
    | true =>
      have hrec := records_ev a l (by omega) (fun x hx => by have := h1 x hx; omega)
      have hsz := recs_size a b hv l
      have hlen : (l.map (pad (padn a))).length ≤ 40 := by rw [List.length_map]; omega
      generalize l.map (pad (padn a)) = q at hrec hsz hlen
      refine Ev.step (f := fun k => (dasdlaw10_records.f k a l).bind fun t105 => (XFb.dasdlaw10_FixedBuilds.l0 k a b t105 (([] : List ByteArray)) (⟨#[]⟩ : ByteArray) t105 (t105.length : Int) 0)) (fun k => ?_) (Ev.bind hrec (builds_l0 a b hv q hlen hsz q.length 0 [] ⟨#[]⟩ (by omega) (Nat.le_refl _) (.inl ⟨rfl, rfl, rfl⟩)))
      simp only [XFb.dasdlaw10_FixedBuilds.j0, Bool.not_true, Bool.false_eq_true, if_false]

end Go.Proofs.Ytginemabhdjmfaa.Pure
