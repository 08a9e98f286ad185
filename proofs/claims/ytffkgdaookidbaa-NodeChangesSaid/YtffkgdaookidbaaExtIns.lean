/-
slices.Insert of one entry into a row of entries of the caller's own, at this dump: a row of the caller's own with the entry put in; other blocks are as they were.
-/
import Derived.Test.YtffkgdaookidbaaXNx0
import Derived.Lib.Overlaps
import Derived.Lib.AppendZerosOnto
import Derived.Laws.NewBlocks
import Derived.Shelf.RegionOpenPlain
import Derived.Deep.RegionHeld3
import Derived.Deep.DrawnRows
set_option linter.unusedVariables false
set_option linter.unusedSimpArgs false
namespace Go.Proofs.Ytffkgdaookidbaa.XNx
open Go.RowKit Go.Proofs.YtffkgdaookidbaaW.PrintWords Go.Proofs.YtffkgdaookidbaaW.PrintLast Go.Proofs.YtffkgdaookidbaaW.PrintMore
open Go.Proofs.Ytffkgdaookidbaa.XW

/-! ### a row of entries as its cells -/
def cl (x : S32) : List Value := [.string x.f0, .int .i64 x.f1]
def fl (l : List S32) : List Value := l.flatMap cl
theorem fl_cons (x : S32) (l : List S32) : fl (x :: l) = cl x ++ fl l := rfl
theorem fl_app (a b : List S32) : fl (a ++ b) = fl a ++ fl b := List.flatMap_append
theorem fl_len (l : List S32) : (fl l).length = l.length * 2 := by
  induction l with
  | nil => rfl
  | cons x l ih => rw [fl_cons, List.length_append, ih, List.length_cons, Nat.succ_mul, Nat.add_comm]; rfl
theorem fl_take : ∀ (l : List S32) (i : Nat), (fl l).take (i * 2) = fl (l.take i)
  | [], i => by simp [fl]
  | x :: l, 0 => by simp [fl]
  | x :: l, i + 1 => by
    rw [fl_cons, List.take_succ_cons, fl_cons, ← fl_take l i, Nat.succ_mul, Nat.add_comm (i * 2) 2, show 2 + i * 2 = (cl x).length + i * 2 from rfl, List.take_length_add_append]
theorem fl_drop : ∀ (l : List S32) (i : Nat), (fl l).drop (i * 2) = fl (l.drop i)
  | [], i => by simp [fl]
  | x :: l, 0 => by simp
  | x :: l, i + 1 => by
    rw [fl_cons, List.drop_succ_cons, ← fl_drop l i, Nat.succ_mul, Nat.add_comm (i * 2) 2, show 2 + i * 2 = (cl x).length + i * 2 from rfl, List.drop_length_add_append]
theorem fl_one (l : List S32) : ∀ v ∈ fl l, v.oneCell' = true := by
  intro v hv
  obtain ⟨x, _, hx⟩ := List.mem_flatMap.mp hv
  simp only [cl, List.mem_cons, List.not_mem_nil, or_false] at hx
  rcases hx with rfl | rfl <;> rfl
theorem reps_fl {w : World} {base : Nat} {ok : Nat → Prop} : ∀ (l : List S32) (inner : List Value), Reps (k32.M w base ok) 2 l inner → inner = fl l
  | [], inner, h => by
    have := h.1
    rw [List.length_nil, Nat.zero_mul, List.length_eq_zero_iff] at this
    rw [this]
    rfl
  | x :: l, inner, h => by
    have h0 := k32_openM (h.2 0 x rfl)
    rw [Nat.zero_mul, List.drop_zero] at h0
    have ht : Reps (k32.M w base ok) 2 l (inner.drop 2) := by
      refine ⟨by rw [List.length_drop, h.1, List.length_cons, Nat.succ_mul, Nat.add_sub_cancel], fun j p hp => ?_⟩
      have := h.2 (j + 1) p (by simpa using hp)
      rw [List.drop_drop, Nat.add_comm 2]
      rwa [Nat.succ_mul] at this
    rw [fl_cons, ← reps_fl l _ ht, show cl x = inner.take 2 from h0.symm, List.take_append_drop]
theorem fl_reps (w : World) (base : Nat) (ok : Nat → Prop) : ∀ l : List S32, Reps (k32.M w base ok) 2 l (fl l) := by
  intro l
  refine ⟨fl_len l, fun j p hp => ?_⟩
  rw [fl_drop]
  obtain ⟨hj, rfl⟩ := List.getElem?_eq_some_iff.mp hp
  rw [List.drop_eq_getElem_cons hj, fl_cons]
  exact k32_mkM w base ok l[j]
theorem R_open {w : World} {base g n cp : Nat} {ok : Nat → Prop} {l : List S32} (h : Kd.R k32 32 w base ok (.slice (some ⟨g, 0, none⟩) n cp) l) :
    ∃ cur : Array Value, w.heap[g]? = some (.cells cur 32 (0, 0)) ∧ base ≤ g ∧ n = l.length ∧ n ≤ cp ∧ cp ≤ maxLen ∧ cur.size = cp * 2 ∧ cur.toList.take (n * 2) = fl l := by
  obtain ⟨_, inner, ho, hr⟩ := h
  have hi := reps_fl l inner hr
  rcases ho.2 with ⟨he, _⟩ | ⟨g', cap, cur, he, hb, hh, h1, h2, h3, h4⟩
  · injection he with he _ _
    cases he
  · injection he with ha hn hc
    injection ha with ha
    injection ha with hg _ _
    subst hg; subst hc
    refine ⟨cur, hh, hb, hn, by omega, h2, h3, ?_⟩
    rw [hn, ← hi]
    exact h4
theorem R_close {w : World} {base g cp : Nat} {l : List S32} {cur : Array Value} (hh : w.heap[g]? = some (.cells cur 32 (0, 0))) (hb : base ≤ g) (h1 : l.length ≤ cp) (h2 : cp ≤ maxLen) (h3 : cur.size = cp * 2) (h4 : cur.toList.take (l.length * 2) = fl l) :
    Kd.R k32 32 w base (fun _ => True) (.slice (some ⟨g, 0, none⟩) l.length cp) l :=
  ⟨fun _ _ => trivial, fl l, ⟨fl_len l, .inr ⟨g, cp, cur, rfl, hb, hh, h1, h2, h3, h4⟩⟩, fl_reps _ _ _ l⟩

/-! ### copy, at elements of two cells -/
theorem size32 : (Try.prog.info? 32).map (·.size) = some 2 := by
  obtain ⟨i0, hi, _, hsz, _⟩ := info_parts info32
  rw [hi]
  simp [hsz]
theorem run_copy2 (w : World) (ty : TypeId) (g o dLen dCap m : Nat) (a : Addr) (sLen sCap : Nat) (cur : Array Value) (cs : List Value)
    (hg : w.heap[g]? = some (.cells cur 32 (0, 0))) (hm : Nat.min sLen dLen = m) (hn : cs.length = m * 2)
    (hsrc : ∀ j v, cs[j]? = some v → w.cell? (a.add j) = some v) (hfit : o + cs.length ≤ cur.size) (h1 : ∀ v ∈ cs, v.oneCell' = true) :
    (Builtin.copy_ #[22, 22] ty #[.slice (some ⟨g, o, none⟩) dLen dCap, .slice (some a) sLen sCap]).run Try.prog w =
      .ok (goInt m) (w.setRow g (cur.toList.take o ++ cs ++ cur.toList.drop (o + cs.length)).toArray) := by
  have hl := run_loadCells_list (P := Try.prog) w a cs hsrc
  have hst := run_storeCells_at Try.prog g o 32 cs 0 cur w hg (by simpa using hfit) h1
  have hu : Try.prog.underlying 22 = some (.slice 32) := Try.underlying22
  have hs := size32
  cases hq : Try.prog.info? 32 with
  | none => simp [hq] at hs
  | some i =>
    have hi : i.size = 2 := by simpa [hq] using hs
    rw [hn] at hl
    simp [Builtin.copy_, run_underlying hu, Builtin.lenOf, Builtin.firstCells, sizeOf, typeInfo, hq, hi, hm, hl, hst]
theorem addr_add (b o j : Nat) : (⟨b, o, none⟩ : Addr).add j = ⟨b, o + j, none⟩ := by unfold Addr.add; split <;> simp_all
theorem wp_copy2 (w : World) {o : Oper} {a : Act} {K : Act → World → Prop} {Q : Exit → Act → World → Prop} (d s : Operand)
    (ho : o.op = .call { callee := .builtin .copy, args := #[d, s], argTypes := #[22, 22] }) (v u : Value) (hd : a.eval d = v) (hs : a.eval s = u) {v' : Value} {w' : World}
    (hr : (Builtin.copy_ #[22, 22] o.type #[v, u]).run Try.prog w = .ok v' w') (h : K (a.put o.dst v') w') : o.wp Try.prog a w K Q := by
  unfold Oper.wp execOp
  simp only [ho, resolve, invoke, builtin, Sem.run_bind, Sem.run_pure, Result.andThen_ok, List.map_toArray, List.map_cons, List.map_nil, hd, hs, hr]
  exact h
theorem wpList_copy2 (w : World) {ops : Array Oper} {rest : List Oper} {o : Oper} {a : Act} {Q : Exit → Act → World → Prop} (hgd : o.guard = none) (d s : Operand)
    (ho : o.op = .call { callee := .builtin .copy, args := #[d, s], argTypes := #[22, 22] }) (v u : Value) (hd : a.eval d = v) (hs : a.eval s = u) {v' : Value} {w' : World}
    (hr : (Builtin.copy_ #[22, 22] o.type #[v, u]).run Try.prog w = .ok v' w') (h : wpList Try.prog ops Q rest (a.put o.dst v') w') : wpList Try.prog ops Q (o :: rest) a w :=
  wpList_plain hgd fun _ hK => wp_copy2 w d s ho v u hd hs hr (hK _ _ h)
theorem step_copy2 {ops : Array Oper} {o : Oper} {a : Act} {w : World} {K : Act → World → Prop} {Q : Exit → Act → World → Prop} {E : Prop}
    (hg : o.guard = none) (d x : Operand) (hop : o.op = Op.call { callee := Callee.builtin Builtin.copy, args := #[d, x], argTypes := #[22, 22] })
    (v u : Value) (hd : a.eval d = v) (hx : a.eval x = u) {v' : Value} {w' : World} (hr : (Builtin.copy_ #[22, 22] o.type #[v, u]).run Try.prog w = .ok v' w') (hK : K (a.put o.dst v') w') :
    if Region.wanted o (yielded ops a.tmps) = true then Oper.wp Try.prog o a w K Q else E := by
  rw [if_pos (show Region.wanted o (yielded ops a.tmps) = true by simp [Region.wanted, hg])]
  exact wp_copy2 w d x hop v u hd hx hr hK

/-! ### cuts -/
theorem cut_f (g n cp k : Nat) (j : Int) (hj : j = (k : Int)) (h1 : k ≤ n) (h2 : k < cp) (W : World) : (Instr.slice 22 (.slice (some ⟨g, 0, none⟩) n cp) (some (.int .i64 j)) none none).run Try.prog W = .ok (.slice (some ⟨g, k * 2, none⟩) (n - k) (cp - k)) W := by
  obtain ⟨i0, hi, _, hsz, _⟩ := info_parts info32
  subst hj
  have := cut_from (P := Try.prog) 22 32 .i64 Try.underlying22 hi 2 hsz (some ⟨g, 0, none⟩) n cp (k : Int) (by omega) (by omega) W
  rw [Int.toNat_natCast, if_neg (by omega)] at this
  rw [this]
  simp [Addr.add]
  try (intro h; exact h.symm)
theorem cut_t (g n cp k : Nat) (j : Int) (hj : j = (k : Int)) (h2 : k ≤ cp) (W : World) : (Instr.slice 22 (.slice (some ⟨g, 0, none⟩) n cp) none (some (.int .i64 j)) none).run Try.prog W = .ok (.slice (some ⟨g, 0, none⟩) k cp) W := by
  obtain ⟨i0, hi, _, hsz, _⟩ := info_parts info32
  subst hj
  have hu : Try.prog.underlying 22 = some (.slice 32) := Try.underlying22
  simp [Instr.slice, Instr.sliceBounds, Instr.sliceBound, hu, sizeOf, typeInfo, hi, hsz, asIntOf, Addr.add, Result.andThen]
  rw [if_pos (show k ≤ cp by omega)]
theorem overlaps_no (vb g o lb cb : Nat) (w : World) (x : S32) (cur : Array Value) (hv : w.heap[vb]? = some (.cells #[.string x.f0, .int .i64 x.f1] 32 (0, 0))) (hg : w.heap[g]? = some (.cells cur 32 (0, 0))) (hne : vb ≠ g) (hcur : cur.size ≠ 0) :
    (callFunc 45 #[.slice (some ⟨vb, 0, none⟩) 1 1, .slice (some ⟨g, o, none⟩) lb cb]).run Try.prog w = .ok (.value (.bool false)) w := by
  obtain ⟨i0, hi, _, hsz, _⟩ := info_parts info32
  rw [run_callFunc_extern Try.func45 (by kernel_rfl) (by kernel_rfl) (by kernel_rfl) (e := Extern.SlicesOverlaps.overlaps #[22, 22] #[4]) (by kernel_rfl),
    Lib.run_overlaps_apart w 22 4 32 Try.underlying22 2 (fun w => by simp [sizeOf, typeInfo, hi, hsz]) ⟨vb, 0, none⟩ ⟨g, o, none⟩ 1 1 lb cb hne 32 32 2 cur.size (by simp [World.shape?, hv]) (by simp [World.shape?, hg]) hcur (blk_frozen hv 0) (blk_frozen hv 2)]
  rfl
/-- What the two copies leave. -/
def put1 (cur : Array Value) (l : List S32) (i : Nat) : Array Value := (cur.toList.take ((i + 1) * 2) ++ fl (l.drop i) ++ cur.toList.drop ((i + 1) * 2 + (fl (l.drop i)).length)).toArray
def put2 (cur : Array Value) (i : Nat) (x : S32) : Array Value := (cur.toList.take (i * 2) ++ cl x ++ cur.toList.drop (i * 2 + (cl x).length)).toArray
theorem put_len (a b c d : List Value) (h : d.length = b.length) : (a ++ d ++ c).length = (a ++ b ++ c).length := by simp [h]
theorem put1_size (cur : Array Value) (l : List S32) (i cp : Nat) (hc : cur.size = cp * 2) (hi : i < l.length) (hr : l.length + 1 ≤ cp) : (put1 cur l i).size = cp * 2 := by
  unfold put1
  rw [List.size_toArray, List.length_append, List.length_append, List.length_take, List.length_drop, fl_len, List.length_drop, Array.length_toList]
  omega
theorem put2_size (cur : Array Value) (i cp : Nat) (x : S32) (hc : cur.size = cp * 2) (hr : i + 1 ≤ cp) : (put2 cur i x).size = cp * 2 := by
  unfold put2
  rw [List.size_toArray, List.length_append, List.length_append, List.length_take, List.length_drop, Array.length_toList, show (cl x).length = 2 from rfl]
  omega
theorem put_done (cur : Array Value) (l : List S32) (i cp : Nat) (x : S32) (hc : cur.size = cp * 2) (hi : i < l.length) (hr : l.length + 1 ≤ cp) (ht : cur.toList.take (l.length * 2) = fl l) :
    (put2 (put1 cur l i) i x).toList.take ((l.length + 1) * 2) = fl (l.take i ++ x :: l.drop i) := by
  have h0 : cur.toList.length = cp * 2 := by rw [Array.length_toList]; exact hc
  have hl1 : (cur.toList.take ((i + 1) * 2)).length = (i + 1) * 2 := by rw [List.length_take, h0]; omega
  have hdr : (fl (l.drop i)).length = (l.length - i) * 2 := by rw [fl_len, List.length_drop]
  have hA : (put1 cur l i).toList.take (i * 2) = fl (l.take i) := by
    show (cur.toList.take ((i + 1) * 2) ++ fl (l.drop i) ++ _).take (i * 2) = _
    rw [List.append_assoc, List.take_append_of_le_length (by rw [hl1]; omega), List.take_take, ← fl_take, ← ht, List.take_take]
    congr 1
    omega
  have hB : (put1 cur l i).toList.drop (i * 2 + (cl x).length) = fl (l.drop i) ++ cur.toList.drop ((i + 1) * 2 + (fl (l.drop i)).length) := by
    show (cur.toList.take ((i + 1) * 2) ++ fl (l.drop i) ++ _).drop (i * 2 + 2) = _
    rw [List.append_assoc, show i * 2 + 2 = (cur.toList.take ((i + 1) * 2)).length by rw [hl1]; omega, List.drop_left]
  show (_ ++ cl x ++ _ : List Value).take ((l.length + 1) * 2) = _
  rw [hA, hB, fl_app, fl_cons, ← List.append_assoc, ← List.append_assoc]
  refine List.take_left' ?_
  rw [List.length_append, List.length_append, fl_len, hdr, List.length_take, show (cl x).length = 2 from rfl]
  omega
theorem grown_setRow {w w' : World} {g : Nat} (h : w.grownBy w' (some g)) (cs : Array Value) : w.grownBy (w'.setRow g cs) (some g) :=
  ⟨h.os, h.tape, h.output, by rw [size_setRow]; exact h.size, fun k hk hn => by rw [setRow_other _ _ _ _ (fun e => hn (by rw [e]))]; exact h.block k hk hn⟩
theorem grown_drew {w w' : World} {r : Option Nat} (h : w.grownBy w' r) : w.grownBy w'.drew r := ⟨h.os, h.tape, h.output, h.size, h.block⟩
theorem grown_refl (w : World) (r : Option Nat) : w.grownBy w r := ⟨rfl, rfl, rfl, Nat.le_refl _, fun _ _ _ => rfl⟩

set_option maxHeartbeats 4000000 in
set_option maxRecDepth 100000 in
theorem insert_room (base g cp : Nat) (l : List S32) (i : Nat) (x : S32) (vb : Nat) (w : World) (hR : Kd.R k32 32 w base (fun _ => True) (.slice (some ⟨g, 0, none⟩) l.length cp) l) (hv : w.heap[vb]? = some (.cells #[.string x.f0, .int .i64 x.f1] 32 (0, 0))) (hne : vb ≠ g) (hi : i < l.length) (hl : l.length ≤ 1000) (hroom : l.length + 1 ≤ cp) :
    Calls Try.prog 34 #[.slice (some ⟨g, 0, none⟩) l.length cp, .int .i64 i, .slice (some ⟨vb, 0, none⟩) 1 1] w fun e w' => ∃ v, e = .returned v ∧ Kd.R k32 32 w' base (fun _ => True) v (l.take i ++ x :: l.drop i) ∧ w.grownBy w' (some g) := by
  obtain ⟨cur, hg, hb, _, h1, h2, h3, h4⟩ := R_open hR
  have hc63 : cp ≤ 9223372036854775807 := by unfold maxLen at h2; omega
  have hlen : (l.take i ++ x :: l.drop i).length = l.length + 1 := by simp; omega
  have hov := fun o lb cb => overlaps_no vb g o lb cb w x cur hv hg hne (by omega)
  have hcp1 : ∀ W : World, W.heap[g]? = some (.cells cur 32 (0, 0)) → ∀ ty dc sc, (Builtin.copy_ #[22, 22] ty #[.slice (some ⟨g, (i + 1) * 2, none⟩) (l.length - i) dc, .slice (some ⟨g, i * 2, none⟩) (l.length + 1 - i) sc]).run Try.prog W = .ok (goInt (l.length - i : Nat)) (W.setRow g (put1 cur l i)) := fun W hW ty dc sc =>
    run_copy2 W ty g ((i + 1) * 2) (l.length - i) dc (l.length - i) ⟨g, i * 2, none⟩ (l.length + 1 - i) sc cur (fl (l.drop i)) hW (by show min _ _ = _; omega) (by rw [fl_len, List.length_drop])
      (fun j v hj => by
        rw [addr_add, blk_cell hW, ← Array.getElem?_toList]
        rw [← fl_drop, ← h4, List.getElem?_drop] at hj
        rw [List.getElem?_take] at hj
        split at hj
        · exact hj
        · cases hj)
      (by rw [fl_len, List.length_drop]; omega) (fl_one _)
  have hcp2 : ∀ (W : World) (c1 : Array Value), W.heap[g]? = some (.cells c1 32 (0, 0)) → W.heap[vb]? = some (.cells #[.string x.f0, .int .i64 x.f1] 32 (0, 0)) → c1.size = cp * 2 → ∀ ty dc, (Builtin.copy_ #[22, 22] ty #[.slice (some ⟨g, i * 2, none⟩) (l.length + 1 - i) dc, .slice (some ⟨vb, 0, none⟩) 1 1]).run Try.prog W = .ok (goInt (1 : Nat)) (W.setRow g (put2 c1 i x)) := fun W c1 hW hV hc ty dc =>
    run_copy2 W ty g (i * 2) (l.length + 1 - i) dc 1 ⟨vb, 0, none⟩ 1 1 c1 (cl x) hW (by show min _ _ = _; omega) rfl
      (fun j v hj => by
        rw [addr_add, blk_cell hV, Nat.zero_add, ← Array.getElem?_toList]
        exact hj)
      (by rw [show (cl x).length = 2 from rfl]; omega) (fun v hv => by
        simp only [cl, List.mem_cons, List.not_mem_nil, or_false] at hv
        rcases hv with rfl | rfl <;> rfl)
  have cA := fun W => cut_f g l.length cp i (i : Int) rfl (by omega) (by omega) W
  have cB := fun W => cut_t g l.length cp (l.length + 1) ((l.length : Int) + 1) (by omega) (by omega) W
  have cC := fun W => cut_f g (l.length + 1) cp (i + 1) ((i : Int) + 1) (by omega) (by omega) (by omega) W
  have cD := fun W => cut_f g (l.length + 1) cp i (i : Int) rfl (by omega) (by omega) W
  rw [show l.length + 1 - (i + 1) = l.length - i by omega] at cC
  have hz2 : ((i : Int) == (l.length : Int)) = false := beq_eq_false_iff_ne.mpr (by omega)
  have hz3 : ¬ ((cp : Int) < (l.length : Int) + 1) := by omega
  have W1 : (w.drew.setRow g (put1 cur l i)).heap[g]? = some (.cells (put1 cur l i) 32 (0, 0)) := setRow_heap _ _ _ _ _ _ hg
  have W2 : (w.drew.setRow g (put1 cur l i)).heap[vb]? = some (.cells #[.string x.f0, .int .i64 x.f1] 32 (0, 0)) := (setRow_other _ _ _ _ hne).trans hv
  have W3 : ((w.drew.setRow g (put1 cur l i)).setRow g (put2 (put1 cur l i) i x)).heap[g]? = some (.cells (put2 (put1 cur l i) i x) 32 (0, 0)) := setRow_heap _ _ _ _ _ _ W1
  have HS := put1_size cur l i cp h3 hi hroom
  have fin : Kd.R k32 32 ((w.drew.setRow g (put1 cur l i)).setRow g (put2 (put1 cur l i) i x)) base (fun _ => True) (.slice (some ⟨g, 0, none⟩) (l.length + 1) cp) (l.take i ++ x :: l.drop i) := by
    have := R_close (cp := cp) (l := l.take i ++ x :: l.drop i) W3 hb (by omega) h2 (put2_size _ i cp x HS (by omega)) (by rw [hlen]; exact put_done cur l i cp x h3 hi hroom h4)
    rw [hlen] at this
    exact this
  have FIN := Aside0.mk fin
  have HGR := Aside0.mk (grown_setRow (grown_setRow (grown_drew (grown_refl w (some g))) (put1 cur l i)) (put2 (put1 cur l i) i x))
  have P1 := Aside0.mk (hcp1 w.drew hg)
  have P2 := Aside0.mk (hcp2 _ _ W1 W2 HS)
  have hw1 : IntKind.i64.wrap ((i : Int) + 1) = (i : Int) + 1 := by rw [IntKind.wrap_i64]; omega
  have hw2 : IntKind.i64.wrap ((l.length : Int) + 1) = (l.length : Int) + 1 := by rw [IntKind.wrap_i64]; omega
  clear fin W1 W2 W3 hcp1 hcp2 HS hR hlen h4 h3
  go_enter Try.func34, Try.ntmps34
  go_wp2_with (simp only [hov])
  have p1 := P1.out
  go_region_held3 (fun w' => True) (trivial) (fail)
  clear p1
  have p2 := P2.out
  go_wp2
  go_ret
  exact ⟨_, rfl, FIN.out, HGR.out⟩

theorem put_done2 (row : Array Value) (l : List S32) (i G : Nat) (x : S32) (hc : row.size = G * 2) (hi : i < l.length) (hr : l.length + 1 ≤ G) (ht : row.toList.take (i * 2) = fl (l.take i)) :
    (put1 (put2 row i x) l i).toList.take ((l.length + 1) * 2) = fl (l.take i ++ x :: l.drop i) := by
  have h0 : row.toList.length = G * 2 := by rw [Array.length_toList]; exact hc
  have hA : (put2 row i x).toList.take ((i + 1) * 2) = fl (l.take i) ++ cl x := by
    show (row.toList.take (i * 2) ++ cl x ++ _).take ((i + 1) * 2) = _
    rw [ht]
    refine List.take_left' ?_
    rw [List.length_append, fl_len, List.length_take, show (cl x).length = 2 from rfl]
    omega
  show (_ ++ fl (l.drop i) ++ _ : List Value).take ((l.length + 1) * 2) = _
  rw [hA, fl_app, fl_cons, ← List.append_assoc]
  refine List.take_left' ?_
  rw [List.length_append, List.length_append, fl_len, fl_len, List.length_take, List.length_drop, show (cl x).length = 2 from rfl]
  omega
theorem grown_setRow' {w w' : World} {g N : Nat} (h : w.grownBy w' (some g)) (hN : w.heap.size ≤ N) (cs : Array Value) : w.grownBy (w'.setRow N cs) (some g) :=
  ⟨h.os, h.tape, h.output, by rw [size_setRow]; exact h.size, fun k hk hn => by rw [setRow_other _ _ _ _ (by omega)]; exact h.block k hk hn⟩
theorem grown_alloc' {w w' : World} {r : Option Nat} (h : w.grownBy w' r) (o : Obj) : w.grownBy (w'.alloc o) r :=
  ⟨h.os, h.tape, h.output, by have := h.size; simp; omega, fun k hk hn => (Below.heap_alloc w' o k (Nat.lt_of_lt_of_le hk h.size)).trans (h.block k hk hn)⟩

set_option maxHeartbeats 4000000 in
set_option maxRecDepth 100000 in
theorem insert_grow (base g cp : Nat) (l : List S32) (i : Nat) (x : S32) (vb : Nat) (w : World) (hR : Kd.R k32 32 w base (fun _ => True) (.slice (some ⟨g, 0, none⟩) l.length cp) l) (hv : w.heap[vb]? = some (.cells #[.string x.f0, .int .i64 x.f1] 32 (0, 0))) (hne : vb ≠ g) (hi : i < l.length) (hl : l.length ≤ 1000) (hroom : cp < l.length + 1) :
    Calls Try.prog 34 #[.slice (some ⟨g, 0, none⟩) l.length cp, .int .i64 i, .slice (some ⟨vb, 0, none⟩) 1 1] w fun e w' => ∃ v, e = .returned v ∧ Kd.R k32 32 w' base (fun _ => True) v (l.take i ++ x :: l.drop i) ∧ w.grownBy w' (some g) := by
  obtain ⟨cur, hg, hb, _, h1, h2, h3, h4⟩ := R_open hR
  obtain ⟨i0, hi0, hz0, hzs, hzb⟩ := info_parts info32
  have hgw := blk_lt hg
  have hvw := blk_lt hv
  have hlen : (l.take i ++ x :: l.drop i).length = l.length + 1 := by simp; omega
  have hold : (Builtin.firstCells i0.size i (.slice (some ⟨g, 0, none⟩) i cp)).run Try.prog w.drew = .ok (fl (l.take i)).toArray w.drew := by
    rw [hzs]
    exact run_firstCells_some w.drew 2 i ⟨g, 0, none⟩ i cp (fl (l.take i)) (by rw [fl_len, List.length_take]; omega) (fun j v hj => by
      rw [addr_add, Nat.zero_add, blk_cell (w := w.drew) hg, ← Array.getElem?_toList]
      rw [← fl_take, ← h4, List.take_take, List.getElem?_take] at hj
      split at hj
      · exact hj
      · cases hj)
  obtain ⟨G, hG⟩ : ∃ G, G = grownCap w (l.length + 1) cp 32 := ⟨_, rfl⟩
  obtain ⟨ROW, hROW⟩ : ∃ ROW : Array Value, ROW = (fl (l.take i)).toArray ++ Builtin.zeroCells (Value.agg #[(.string ⟨#[]⟩), (.int .i64 0)]).cells (l.length + 1 - i) ++ Builtin.zeroCells (Value.agg #[(.string ⟨#[]⟩), (.int .i64 0)]).cells (G - (l.length + 1)) := ⟨_, rfl⟩
  have hrz : ∀ ty, (Builtin.append_ #[22, 3] ty #[.slice (some ⟨g, 0, none⟩) i cp, .int .i64 ((l.length : Int) + 1 - (i : Int))]).run Try.prog w =
      .ok (.slice (some ⟨w.heap.size, 0, none⟩) (l.length + 1) G) (w.drew.alloc (.cells ROW 32)) := fun ty => by
    have h := Lib.run_append_grow_zeros w 22 3 ty 32 i0 _ .i64 .i64 Try.underlying22 Try.underlying3 hi0 hz0 (some ⟨g, 0, none⟩) i cp (fl (l.take i)) hold (l.length + 1 - i) (by omega) (by omega) (by omega) (by omega) (by rw [hzb]; omega) (by rw [hzb, show i + (l.length + 1 - i) = l.length + 1 by omega]; exact growslice_fits hroom (by omega))
    rw [show i + (l.length + 1 - i) = l.length + 1 by omega, ← hG, ← hROW] at h
    rw [show (l.length : Int) + 1 - (i : Int) = ((l.length + 1 - i : Nat) : Int) by omega]
    exact h
  have hGn : l.length + 1 ≤ G := by rw [hG]; exact grownCap_ge w _ _ _
  have hGm : G ≤ maxLen := by rw [hG]; exact grownCap_le_maxLen w (l.length + 1) cp 32 (by unfold maxLen; omega)
  have hG63 : G ≤ 9223372036854775807 := by unfold maxLen at hGm; omega
  have hRs : ROW.size = G * 2 := by
    rw [hROW]
    simp [Builtin.zeroCells, Value.cells, fl_len]
    omega
  have hRt : ROW.toList.take (i * 2) = fl (l.take i) := by
    rw [hROW, Array.toList_append, Array.toList_append, List.append_assoc]
    exact List.take_left' (by show (fl (l.take i)).length = _; rw [fl_len, List.length_take]; omega)
  have hcpA : ∀ W : World, W.heap[w.heap.size]? = some (.cells ROW 32 (0, 0)) → W.heap[vb]? = some (.cells #[.string x.f0, .int .i64 x.f1] 32 (0, 0)) → ∀ ty dc, (Builtin.copy_ #[22, 22] ty #[.slice (some ⟨w.heap.size, i * 2, none⟩) (l.length + 1 - i) dc, .slice (some ⟨vb, 0, none⟩) 1 1]).run Try.prog W = .ok (goInt (1 : Nat)) (W.setRow w.heap.size (put2 ROW i x)) := fun W hW hV ty dc =>
    run_copy2 W ty w.heap.size (i * 2) (l.length + 1 - i) dc 1 ⟨vb, 0, none⟩ 1 1 ROW (cl x) hW (by show min _ _ = _; omega) rfl
      (fun j v hj => by
        rw [addr_add, blk_cell hV, Nat.zero_add, ← Array.getElem?_toList]
        exact hj)
      (by rw [show (cl x).length = 2 from rfl]; omega) (fun v hv => by
        simp only [cl, List.mem_cons, List.not_mem_nil, or_false] at hv
        rcases hv with rfl | rfl <;> rfl)
  have hS2 := put2_size ROW i G x hRs (by omega)
  have hcpB : ∀ W : World, W.heap[w.heap.size]? = some (.cells (put2 ROW i x) 32 (0, 0)) → W.heap[g]? = some (.cells cur 32 (0, 0)) → ∀ ty dc sc, (Builtin.copy_ #[22, 22] ty #[.slice (some ⟨w.heap.size, (i + 1) * 2, none⟩) (l.length - i) dc, .slice (some ⟨g, i * 2, none⟩) (l.length - i) sc]).run Try.prog W = .ok (goInt (l.length - i : Nat)) (W.setRow w.heap.size (put1 (put2 ROW i x) l i)) := fun W hW hV ty dc sc =>
    run_copy2 W ty w.heap.size ((i + 1) * 2) (l.length - i) dc (l.length - i) ⟨g, i * 2, none⟩ (l.length - i) sc (put2 ROW i x) (fl (l.drop i)) hW (by show min _ _ = _; omega) (by rw [fl_len, List.length_drop])
      (fun j v hj => by
        rw [addr_add, blk_cell hV, ← Array.getElem?_toList]
        rw [← fl_drop, ← h4, List.getElem?_drop, List.getElem?_take] at hj
        split at hj
        · exact hj
        · cases hj)
      (by rw [fl_len, List.length_drop]; omega) (fl_one _)
  have cA := fun W => cut_f g l.length cp i (i : Int) rfl (by omega) (by omega) W
  have cB := fun W => cut_t g l.length cp i (i : Int) rfl (by omega) W
  have cC := fun W => cut_f w.heap.size (l.length + 1) G (i + 1) ((i : Int) + 1) (by omega) (by omega) (by omega) W
  have cD := fun W => cut_f w.heap.size (l.length + 1) G i (i : Int) rfl (by omega) (by omega) W
  rw [show l.length + 1 - (i + 1) = l.length - i by omega] at cC
  have hz2 : ((i : Int) == (l.length : Int)) = false := beq_eq_false_iff_ne.mpr (by omega)
  have hz3 : (cp : Int) < (l.length : Int) + 1 := by omega
  have i1 : (i : Int) ≤ (l.length : Int) := by omega
  have hw1 : IntKind.i64.wrap ((i : Int) + 1) = (i : Int) + 1 := by rw [IntKind.wrap_i64]; omega
  have hw2 : IntKind.i64.wrap ((l.length : Int) + 1) = (l.length : Int) + 1 := by rw [IntKind.wrap_i64]; omega
  have l1 : (l.length : Int) ≤ 1000 := by omega
  have HV := Aside0.mk hv
  have HG := Aside0.mk hg
  have HA := Aside0.mk hcpA
  have HBc := Aside0.mk hcpB
  have HRs := Aside0.mk hRs
  have HRt := Aside0.mk hRt
  have HLen := Aside0.mk hlen
  have HGm := Aside0.mk hGm
  have HGn := Aside0.mk hGn
  have HRoom := Aside0.mk hroom
  have HS2 := Aside0.mk hS2
  have HI := Aside0.mk hi
  have HL := Aside0.mk hl
  have HBb := Aside0.mk hb
  have HW := Aside0.mk (show g < w.heap.size ∧ vb < w.heap.size from ⟨hgw, hvw⟩)
  clear hv hg hcpA hcpB hRs hRt hlen hGm hGn hroom hS2 hl hb hgw hvw hR h1 h2 h3 h4 hold hG hROW hi0 hz0 hzs hzb
  have p1 := HA.out (w.alloc (.cells ROW 32)).drew (blk_drew (blk_new w _)) (blk_drew (blk_alloc HV.out _))
  go_enter Try.func34, Try.ntmps34
  go_wp2_with (at_builtin; refine Lib.wpList_append_run _ rfl _ _ _ _ rfl _ _ rfl rfl _ _ (hrz _) ?_)
  clear p1
  have WN : (((w.alloc (.cells ROW 32)).drew.setRow w.heap.size (put2 ROW i x))).heap[w.heap.size]? = some (.cells (put2 ROW i x) 32 (0, 0)) := setRow_heap _ _ _ _ _ _ (blk_drew (blk_new w _))
  have WG : (((w.alloc (.cells ROW 32)).drew.setRow w.heap.size (put2 ROW i x))).heap[g]? = some (.cells cur 32 (0, 0)) := (setRow_other _ _ _ _ (Nat.ne_of_lt HW.out.1)).trans (blk_drew (blk_alloc HG.out _))
  have p2 := HBc.out (((w.alloc (.cells ROW 32)).drew.setRow w.heap.size (put2 ROW i x))).drew (blk_drew WN) (blk_drew WG)
  have W3 := setRow_heap _ w.heap.size _ (put1 (put2 ROW i x) l i) _ _ (blk_drew WN)
  have W3' := Aside0.mk W3
  clear WN WG W3
  go_region_held3 (fun w' => True) (trivial) (fail)
  clear p2
  go_wp2
  go_ret
  refine ⟨_, rfl, ?_, ?_⟩
  · have hlen := HLen.out
    have := R_close (cp := G) (base := base) (l := l.take i ++ x :: l.drop i) W3'.out (Nat.le_of_lt (Nat.lt_of_le_of_lt HBb.out HW.out.1)) (by have := HGn.out; rw [hlen]; exact this) HGm.out (put1_size _ l i G HS2.out HI.out HGn.out) (by rw [hlen]; exact put_done2 ROW l i G x HRs.out HI.out HGn.out HRt.out)
    rw [hlen] at this
    exact this
  · exact grown_setRow' (grown_drew (grown_setRow' (grown_drew (grown_alloc' (grown_refl w (some g)) _)) (Nat.le_refl _) _)) (Nat.le_refl _) _
/-- slices.Insert of one entry, wherever there is room or not. -/
theorem insert_calls (base g cp : Nat) (l : List S32) (i : Nat) (x : S32) (vb : Nat) (w : World) (hR : Kd.R k32 32 w base (fun _ => True) (.slice (some ⟨g, 0, none⟩) l.length cp) l) (hv : w.heap[vb]? = some (.cells #[.string x.f0, .int .i64 x.f1] 32 (0, 0))) (hne : vb ≠ g) (hi : i < l.length) (hl : l.length ≤ 1000) :
    Calls Try.prog 34 #[.slice (some ⟨g, 0, none⟩) l.length cp, .int .i64 i, .slice (some ⟨vb, 0, none⟩) 1 1] w fun e w' => ∃ v, e = .returned v ∧ Kd.R k32 32 w' base (fun _ => True) v (l.take i ++ x :: l.drop i) ∧ w.grownBy w' (some g) := by
  by_cases h : l.length + 1 ≤ cp
  · exact insert_room base g cp l i x vb w hR hv hne hi hl h
  · exact insert_grow base g cp l i x vb w hR hv hne hi hl (by omega)
end Go.Proofs.Ytffkgdaookidbaa.XNx
