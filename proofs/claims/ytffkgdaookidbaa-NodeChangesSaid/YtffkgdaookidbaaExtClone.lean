/-
Contract of slices.Clone at this dump, for a row of entries that is not empty: a row of its own, with the same entries.
-/
import Derived.Test.YtffkgdaookidbaaXNx0
import Derived.WalkSpells
set_option linter.unusedVariables false
set_option linter.unusedSimpArgs false
namespace Go.Proofs.Ytffkgdaookidbaa.XNx
open Go.RowKit Go.Proofs.YtffkgdaookidbaaW.PrintWords Go.Proofs.YtffkgdaookidbaaW.PrintLast Go.Proofs.YtffkgdaookidbaaW.PrintMore
open Go.Proofs.Ytffkgdaookidbaa.XW

set_option maxHeartbeats 4000000 in
set_option maxRecDepth 100000 in
theorem clone_calls (A : Option Addr) (c : Nat) (l : List S32) (w : World) (hr : Kd.C k32 w A l.length l) (hc : l.length ≤ c) (h1 : 1 ≤ l.length) (h2 : l.length ≤ 1000) :
    Calls Try.prog 35 #[.slice A l.length c] w fun e w' => ∃ v, e = .returned v ∧ Kd.R k32 32 w' w.heap.size (fun _ => True) v l ∧ Below w.heap.size w w' := by
  have hu22 := Try.underlying22
  have hnil : ∀ (w : World) (a : Option Addr) (n c : Nat), (binOp .eql 22 (.slice a n c) (.slice none 0 0)).run Try.prog w = .ok (.bool a.isNone) w := fun w a n c => Lib.run_eql_slice_nil w 22 32 a n c 0 0 hu22
  obtain ⟨ad, e, _, _⟩ := at_T32 hr 0 (by omega) (by omega)
  subst e
  have HR := Aside0.mk hr
  have HC := Aside0.mk hc
  have HB := Aside0.mk (Below.refl w.heap.size w)
  clear hr
  go_enter Try.func35, Try.ntmps35
  go_wp2_with (first
    | ((with_reducible refine gate_dst (N := 5) rfl ?_); refine Kd.R_lit k32 _ 32 ?hg (N := 5) ?hd (xs := ([] : List (S32))) (inner := []) (ok := fun _ => True) (okp := fun _ => True) ?hr ?hp (fun _ hk => hk) trivial (Below.refl _ _) (Nat.le_refl _) (by simp) ?_; (case hd => rfl); (case hg => rfl); (case hr => first | (go_simp; done) | (go_simp; rfl)); (case hp => exact (Reps.none _ _)); intro v276 w35 ho36 hb hg_ hnew_; clear hg_ hnew_; have HO := Aside0.mk ho36; have n3_ := Aside0.mk (below_step HB.out hb); clear HB; have HB := n3_; clear n3_; clear hb ho36)
    | ((with_reducible refine gate_builtin (b := .append) (xs := #[.tmp 5, .tmp 6]) rfl ?_); at_builtin; refine Kd.R_append_rows k32 (w0 := w) w.heap.size rfl (.tmp 5) (.tmp 6) 22 32 (.agg #[(.string ⟨#[]⟩), (.int .i64 0)]) 24 rfl Try.underlying22 info32 rfl (by decide) (by omega) v276 [] l _ _ _ (fun _ => True) (fun _ => False) rfl rfl ?aO ?aR (fun _ _ h => h) (fun _ h => h.elim) ?aF ?aB ?aS ?aL ?_; (case aR => exact (Kd.C_below HR.out HB.out)); (case aB => exact HB.out); (case aF => exact (fun _ _ => trivial)); (case aO => exact HO.out); (case aS => exact below_size HB.out); (case aL => show (0 + l.length) * 24 ≤ _; omega); intro v283 w39 ho hb hg hat; have HO2 := Aside0.mk ho; have HB2 := Aside0.mk hb; clear HB HO; clear ho hb hg hat; obtain ⟨Ao40, co40, eo40⟩ := Kd.R_slice HO2.out; subst eo40))

  go_ret
  exact ⟨_, rfl, HO2.out, HB2.out⟩
end Go.Proofs.Ytffkgdaookidbaa.XNx
