/- What slices.Concat of some lists comes to: one list behind the other; no program in sight. -/
import Derived.Test.YtgiihjcpgjpkcaaDoorHSpec
import Derived.Test.YtgiihjcpgjpkcaaDoorQK1
namespace Go.Proofs.YtgiihjcpgjpkcaaDoor.Q
open Go.RowKit Go.Proofs.YtgiihjcpgjpkcaaDoorW.PrintWords Go.Proofs.YtgiihjcpgjpkcaaDoorW.PrintLast Go.Proofs.YtgiihjcpgjpkcaaDoorW.PrintMore
set_option linter.unusedVariables false
set_option linter.unusedSimpArgs false

theorem cat_rd {ls : List (List Int)} {j : Nat} (h : j < ls.length) : rd_L5 ls (j : Int) = ls[j] := by
  unfold rd_L5
  rw [Int.toNat_natCast, List.getD_eq_getElem?_getD, List.getElem?_eq_getElem h]
  rfl
theorem cat_take {ls : List (List Int)} {j : Nat} (h : j < ls.length) : (ls.take (j + 1)).flatten = (ls.take j).flatten ++ ls[j] := by
  rw [List.take_succ_eq_append_getElem h, List.flatten_append]
  simp
theorem cat_le (ls : List (List Int)) (j : Nat) : (ls.take j).flatten.length ≤ ls.flatten.length := by
  have h := congrArg (fun l => (List.flatten l).length) (List.take_append_drop j ls)
  simp only [List.flatten_append, List.length_append] at h
  omega
theorem cat_l1 (ls : List (List Int)) (hT : ls.flatten.length ≤ 1000000) (hl : ls.length ≤ 10) : ∀ (m k j : Nat) (acc : List Int), ls.length = j + m → m < k → acc = (ls.take j).flatten → slices_Concat_int_int.l1 k acc ls ls.length j = some ls.flatten
  | 0, k, j, acc, hj, hk, ha => by
    obtain ⟨k, rfl⟩ : ∃ m, k = m + 1 := ⟨k - 1, by omega⟩
    simp only [slices_Concat_int_int.l1]
    rw [if_neg (by omega), ha, List.take_of_length_le (by omega)]
  | m + 1, k, j, acc, hj, hk, ha => by
    obtain ⟨k, rfl⟩ : ∃ m, k = m + 1 := ⟨k - 1, by omega⟩
    have hjl : j < ls.length := by omega
    have h1 := cat_le ls (j + 1)
    rw [cat_take hjl, List.length_append] at h1
    simp only [slices_Concat_int_int.l1]
    rw [if_pos (by omega), if_pos (by omega), if_pos (by omega), cat_rd hjl, if_pos (by rw [ha]; omega), show wrap64 ((j : Int) + 1) = ((j + 1 : Nat) : Int) from by unfold wrap64; omega]
    exact cat_l1 ls hT hl m k (j + 1) _ (by omega) (by omega) (by rw [ha, cat_take hjl])
theorem cat_l0 (ls : List (List Int)) (h0 : 0 < ls.flatten.length) (hT : ls.flatten.length ≤ 1000000) (hl : ls.length ≤ 10) : ∀ (m k j : Nat) (s : Int), ls.length = j + m → m + 40 ≤ k → s = (ls.take j).flatten.length → slices_Concat_int_int.l0 k ls s ls ls.length j = some ls.flatten
  | 0, k, j, s, hj, hk, hs => by
    obtain ⟨k, rfl⟩ : ∃ m, k = m + 1 := ⟨k - 1, by omega⟩
    rw [List.take_of_length_le (by omega)] at hs
    simp only [slices_Concat_int_int.l0]
    rw [if_neg (by omega)]
    unfold slices_GrowInt.f
    rw [if_pos ⟨rfl, by omega, by omega⟩]
    simp only [Option.bind_some]
    exact cat_l1 ls hT hl ls.length k 0 [] (by omega) (by omega) rfl
  | m + 1, k, j, s, hj, hk, hs => by
    obtain ⟨k, rfl⟩ : ∃ m, k = m + 1 := ⟨k - 1, by omega⟩
    have hjl : j < ls.length := by omega
    have h1 := cat_le ls (j + 1)
    rw [cat_take hjl, List.length_append] at h1
    simp only [slices_Concat_int_int.l0]
    rw [if_pos (by omega), if_pos (by omega), if_pos (by omega), cat_rd hjl, show wrap64 (s + (ls[j].length : Int)) = ((ls.take (j + 1)).flatten.length : Int) from by rw [cat_take hjl, List.length_append]; unfold wrap64; omega, if_neg (by omega), show wrap64 ((j : Int) + 1) = ((j + 1 : Nat) : Int) from by unfold wrap64; omega]
    exact cat_l0 ls h0 hT hl m k (j + 1) _ (by omega) (by omega) rfl
theorem cat_eq (ls : List (List Int)) (h0 : 0 < ls.flatten.length) (hT : ls.flatten.length ≤ 1000000) (hl : ls.length ≤ 10) (k : Nat) (hk : 60 ≤ k) : slices_Concat_int_int.f k ls = some ls.flatten := by
  unfold slices_Concat_int_int.f
  exact cat_l0 ls h0 hT hl ls.length k 0 0 (by omega) (by omega) rfl
end Go.Proofs.YtgiihjcpgjpkcaaDoor.Q
