/-
Contract of node.Find at this dump, in the form in which the printed functions are told: its closure, slices.IndexFunc over it, and the function; for any node and key.
-/
import Derived.Test.YtffkgdaookidbaaXNx0
set_option linter.unusedVariables false
set_option linter.unusedSimpArgs false
namespace Go.Proofs.Ytffkgdaookidbaa.XNx
open Go.RowKit Go.Proofs.YtffkgdaookidbaaW.PrintWords Go.Proofs.YtffkgdaookidbaaW.PrintLast Go.Proofs.YtffkgdaookidbaaW.PrintMore
open Go.Proofs.Ytffkgdaookidbaa.XW

set_option maxHeartbeats 4000000 in
theorem find1_calls (b : ByteArray) (p : Int) (kb : Nat) (key : ByteArray) (w : World) (hk : w.cell? ⟨kb, 0, none⟩ = some (.string key)) :
    Calls Try.prog 31 #[.agg #[.string b, .int .i64 p], .pointer (some ⟨kb, 0, none⟩)] w fun e w' => e = .returned (.bool (Op.bytesLess key.toList b.toList)) ∧ Below w.heap.size w w' := by
  have hu32 := Try.underlying32
  have hb : kb < w.heap.size := World.block_lt_of_cell? w _ hk
  go_enter Try.func31, Try.ntmps31
  go_wp2
  go_ret
  exact ⟨rfl, (Below.refl _ _).alloc (Nat.le_refl _) _⟩

/-- The first entry whose bound is greater. -/
def idx (key : ByteArray) (l : List S32) : Option Nat := l.findIdx? (fun x => Op.bytesLess key.toList x.f0.toList)
def idxI (key : ByteArray) (l : List S32) : Int := match idx key l with | some i => (i : Int) | none => -1
theorem idx_at (key : ByteArray) (l : List S32) (i : Nat) (hi : i < l.length) (hlt : ∀ j, j < i → Op.bytesLess key.toList (rd_T32 l (j : Int)).f0.toList = false) (h : Op.bytesLess key.toList (rd_T32 l (i : Int)).f0.toList = true) : idxI key l = (i : Int) := by
  have e : idx key l = some i := by
    unfold idx
    rw [List.findIdx?_eq_some_iff_getElem]
    refine ⟨hi, ?_, fun j hj => ?_⟩
    · have := h
      unfold rd_T32 at this
      rw [Int.toNat_natCast, List.getD_eq_getElem?_getD, List.getElem?_eq_getElem hi] at this
      exact this
    · have := hlt j hj
      unfold rd_T32 at this
      rw [Int.toNat_natCast, List.getD_eq_getElem?_getD, List.getElem?_eq_getElem (by omega)] at this
      rw [Option.getD_some] at this
      simpa using this
  unfold idxI
  rw [e]
theorem idx_none (key : ByteArray) (l : List S32) (hlt : ∀ j, j < l.length → Op.bytesLess key.toList (rd_T32 l (j : Int)).f0.toList = false) : idxI key l = -1 := by
  have e : idx key l = none := by
    unfold idx
    rw [List.findIdx?_eq_none_iff]
    intro x hx
    obtain ⟨j, hj, rfl⟩ := List.mem_iff_getElem.mp hx
    have := hlt j hj
    unfold rd_T32 at this
    rw [Int.toNat_natCast, List.getD_eq_getElem?_getD, List.getElem?_eq_getElem hj] at this
    exact this
  unfold idxI
  rw [e]

set_option maxHeartbeats 4000000 in
set_option maxRecDepth 100000 in
theorem indexFunc_calls (A : Option Addr) (c : Nat) (l : List S32) (kb : Nat) (key : ByteArray) (w : World) (hr : Kd.C k32 w A l.length l) (hk : w.cell? ⟨kb, 0, none⟩ = some (.string key)) :
    Calls Try.prog 30 #[.slice A l.length c, .func (.func 31) #[] #[.pointer (some ⟨kb, 0, none⟩)]] w fun e w' => e = .returned (.int .i64 (idxI key l)) ∧ Below w.heap.size w w' := by
  have hu32 := Try.underlying32
  have hb : kb < w.heap.size := World.block_lt_of_cell? w _ hk
  have hl : l.length ≤ 9223372036854775807 := hr.2.1
  have HK := Aside0.mk hk
  have HR := Aside0.mk hr
  clear hk hr
  go_enter Try.func30, Try.ntmps30
  go_wp2
  go_loopw [8] (fun v8 w' => ∃ i : Nat, v8 = .int .i64 i ∧ i ≤ l.length ∧ Aside0 (∀ j, j < i → Op.bytesLess key.toList (rd_T32 l (j : Int)).f0.toList = false) ∧ Aside0 (Below w.heap.size w w')) (fun v8 _ => l.length - (intOf v8).toNat)
  case atStart => exact ⟨0, rfl, Nat.zero_le _, ⟨fun j hj => absurd hj (by omega)⟩, ⟨Below.refl _ _⟩⟩
  case round =>
    obtain ⟨i, rfl, hi, HN, HB⟩ := hrel
    by_cases hlt : i < l.length
    · obtain ⟨ad, e, hx0, hx1⟩ := at_T32 HR.out (i : Int) (by omega) (by omega)
      cases e
      rw [Int.toNat_natCast] at hx0 hx1
      have hkw : wr.cell? ⟨kb, 0, none⟩ = some (.string key) := (HB.out.cell (World.block_lt_of_cell? w _ HK.out)).trans HK.out
      replace hx0 := (HB.out.cell (World.block_lt_of_cell? w _ hx0)).trans hx0
      replace hx1 := (HB.out.cell (World.block_lt_of_cell? w _ hx1)).trans hx1
      have HKW := Aside0.mk hkw
      clear hkw
      go_wp2_with fail
      refine (find1_calls _ _ kb key wr HKW.out).mono ?_
      rintro e w2 ⟨rfl, hb2⟩
      have HB2 := Aside0.mk (below_step HB.out hb2)
      clear hb2
      cases hc : Op.bytesLess key.toList (rd_T32 l (i : Int)).f0.toList with
      | true =>
        have HI := Aside0.mk (idx_at key l i hlt HN.out hc)
        clear hc
        go_wp2
        go_ret
        exact ⟨by rw [HI.out]; rfl, HB2.out⟩
      | false =>
        have HN2 : Aside0 (∀ j, j < i + 1 → Op.bytesLess key.toList (rd_T32 l (j : Int)).f0.toList = false) := ⟨fun j hj => by
          by_cases e : j = i
          · rw [e]; exact hc
          · exact HN.out j (by omega)⟩
        clear hc
        go_wp2
        go_roundw
        case rel => exact ⟨i + 1, by go_num, by omega, HN2, HB2⟩
        case measure => simp [intOf]; omega
    · have : i = l.length := by omega
      subst this
      have HI := Aside0.mk (idx_none key l HN.out)
      go_wp2
      go_ret
      exact ⟨by rw [HI.out]; rfl, HB.out⟩

/-- What Find answers. -/
def fnd (l : List S32) (key : ByteArray) : Int := match idx key l with | some i => (i : Int) | none => (l.length : Int) - 1
def node_Find.f (_a0 _a1 : Int) (l : List S32) (key : ByteArray) : Option Int := some (fnd l key)
set_option maxHeartbeats 4000000 in
set_option maxRecDepth 100000 in
theorem node_Find.calls (a0_0 : Int) (a0_1 : Int) (A0_2 : Option Addr) (c0_2 : Nat) (l0_2 : List (S32)) (a1 : ByteArray) (r : Int) (w : World) (hr0_2 : Kd.C k32 w A0_2 l0_2.length l0_2) (hc0_2 : l0_2.length ≤ c0_2) (h : node_Find.f a0_0 a0_1 l0_2 a1 = some r) :
    Calls Try.prog 12 #[.agg #[.int .i64 a0_0, .int .i64 a0_1, .slice A0_2 l0_2.length c0_2], .string a1] w fun e w' => e = .returned (.int .i64 r) ∧ Below w.heap.size w w' := by
  obtain rfl := Option.some.inj h
  have hu24 := Try.underlying24
  have hl : l0_2.length ≤ 9223372036854775807 := hr0_2.2.1
  have HR := Aside0.mk hr0_2
  clear h hr0_2
  go_enter Try.func12, Try.ntmps12
  go_wp2_with fail
  refine (indexFunc_calls A0_2 c0_2 l0_2 (w.heap.size + 1) a1 _ (Kd.C_below HR.out (((Below.refl _ _).alloc (Nat.le_refl _) _).alloc (by simp) _)) ?_).mono ?_
  · go_simp
  rintro e w2 ⟨rfl, hb2⟩
  have HB2 := Aside0.mk (below_step (((Below.refl w.heap.size w).alloc (Nat.le_refl _) (.cells #[.int .i64 a0_0, .int .i64 a0_1, .slice A0_2 l0_2.length c0_2] 24)).alloc (by simp) (.cells #[.string a1] 9)) hb2)
  have hc0 : w2.cell? ⟨w.heap.size, 0, none⟩ = some (.int .i64 a0_0) := (hb2.cell (by simp; omega)).trans (by go_simp)
  have hc1 : w2.cell? ⟨w.heap.size, 1, none⟩ = some (.int .i64 a0_1) := (hb2.cell (by simp; omega)).trans (by go_simp)
  have hc2 : w2.cell? ⟨w.heap.size, 2, none⟩ = some (.slice A0_2 l0_2.length c0_2) := (hb2.cell (by simp; omega)).trans (by go_simp)
  clear hb2
  have hf : fnd l0_2 a1 = match idx a1 l0_2 with | some i => (i : Int) | none => (l0_2.length : Int) - 1 := rfl
  cases hx : idx a1 l0_2 with
  | some i =>
    have hI : idxI a1 l0_2 = (i : Int) := by unfold idxI; rw [hx]
    rw [hx] at hf
    rw [hI]
    have HF := Aside0.mk hf
    have h1 : decide ((i : Int) < 0) = false := decide_eq_false (by omega)
    clear hf hI hx
    go_wp2
    go_ret
    exact ⟨by rw [HF.out]; rfl, HB2.out⟩
  | none =>
    have hI : idxI a1 l0_2 = -1 := by unfold idxI; rw [hx]
    rw [hx] at hf
    rw [hI]
    have HF := Aside0.mk hf
    clear hf hI hx
    go_wp2
    go_ret
    exact ⟨by rw [HF.out]; rfl, HB2.out⟩
end Go.Proofs.Ytffkgdaookidbaa.XNx
