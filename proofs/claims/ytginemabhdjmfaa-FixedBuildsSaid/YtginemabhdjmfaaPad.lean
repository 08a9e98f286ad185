/-
Plain laws on padded records: what the printed function Pad of chapter 10 answers.
-/
import Derived.Test.YtginemabhdjmfaaCut
import Derived.Test.YtginemabhdjmfaaXFx12
set_option linter.unusedVariables false
namespace Go.Proofs.Ytginemabhdjmfaa.Base
open Go.RowKit Go.Proofs.Ytginemabhdjmfaa.XFx Go.Proofs.YtginemabhdjmfaaW.PrintWords Go.Proofs.YtginemabhdjmfaaW.PrintLast Go.Proofs.YtginemabhdjmfaaW.PrintMore

def blanks (m : Nat) : ByteArray := ⟨(List.replicate m 32).toArray⟩
theorem blanks_data (m : Nat) : (blanks m).data.toList = List.replicate m 32 := by simp [blanks]
theorem blanks_size (m : Nat) : (blanks m).size = m := by rw [size_list, blanks_data, List.length_replicate]
theorem rep_blank (m : Nat) : Lib.repeatL [32] m = List.replicate m 32 := by
  induction m with
  | zero => rfl
  | succ m ih => rw [Lib.repeatL, ih, List.replicate_succ]; rfl
theorem repeat_f (m : Nat) (hm : m ≤ 1000) : strings_Repeat.f (⟨#[32]⟩ : ByteArray) (m : Int) = some (blanks m) := by
  unfold strings_Repeat.f
  have h1 : (⟨#[32]⟩ : ByteArray).size = 1 := rfl
  have h2 : (⟨#[32]⟩ : ByteArray).data.toList = [32] := rfl
  rw [if_pos ⟨by omega, by omega, by rw [h1, Int.toNat_natCast]; omega⟩, h2, Int.toNat_natCast, rep_blank]
  rfl
/-- A record with a length. -/
def pad (n : Nat) (r : ByteArray) : ByteArray := if n ≤ r.size then r.extract 0 n else r ++ blanks (n - r.size)
def padn (a : Int) : Nat := (mn (mx 0 a) 1000).toNat
theorem padn_le (a : Int) : padn a ≤ 1000 := by
  unfold padn mn
  split <;> omega
theorem padn_eq (a : Int) : mn (mx 0 a) 1000 = (padn a : Int) ∧ mx 0 (mn a 1000) = (padn a : Int) := by
  unfold padn mn mx
  constructor <;> (repeat' split) <;> omega
theorem pad_size (n : Nat) (r : ByteArray) : (pad n r).size = n := by
  unfold pad
  split
  · rw [ext_size _ _ _ (by assumption)]
    omega
  · rw [app_size, blanks_size]
    omega
theorem pad_f (a : Int) (r : ByteArray) (hr : r.size ≤ 140737488351232) : fixed_Pad.f a r = some (pad (padn a) r) := by
  have hp := padn_le a
  unfold fixed_Pad.f pad
  rw [(padn_eq a).1]
  by_cases h : padn a ≤ r.size
  · rw [if_pos (by omega), if_pos (by omega), if_pos (by omega), if_pos h, Int.toNat_natCast]
  · rw [if_neg (by omega), if_neg h]
    have e : wrap64 ((padn a : Int) - (r.size : Int)) = ((padn a - r.size : Nat) : Int) := by
      rw [w64 (by omega) (by omega)]
      omega
    rw [e, repeat_f _ (by omega)]
    simp only [Option.bind_some]
    rw [blanks_size, if_pos (by omega)]
theorem bt_list (s : ByteArray) (i : Nat) : bt s (i : Int) = ((s.data.toList[i]?.getD 0).toNat : Int) := by
  unfold bt
  rw [Int.toNat_natCast]
  by_cases h : i < s.size
  · rw [dif_pos h, List.getElem?_eq_getElem (by rw [← size_list]; exact h)]
    rfl
  · rw [dif_neg h, List.getElem?_eq_none (by rw [← size_list]; omega)]
    rfl
theorem pad_blank (n : Nat) (r : ByteArray) (i : Nat) (h : r.size ≤ i) (hi : i < n) : bt (pad n r) (i : Int) = 32 := by
  rw [bt_list]
  unfold pad
  rw [if_neg (by omega), app_data, blanks_data, List.getElem?_append_right (by rw [← size_list]; exact h), List.getElem?_replicate, if_pos (by rw [← size_list]; omega)]
  rfl
theorem pad_head (n : Nat) (r : ByteArray) (k : Nat) (h : k ≤ n) (h2 : k ≤ r.size) : (pad n r).extract 0 k = r.extract 0 k := by
  apply ba_ext
  rw [ext_data, ext_data, List.drop_zero, List.drop_zero, Nat.sub_zero]
  unfold pad
  split
  · rw [ext_data, List.drop_zero, Nat.sub_zero, List.take_take, Nat.min_eq_left h]
  · rw [app_data, List.take_append_of_le_length (by rw [← size_list]; exact h2)]
end Go.Proofs.Ytginemabhdjmfaa.Base
