/- Contracts walked by hand and lemmas for them, as far as RefillDays needs them. -/
import Derived.Test.YtgiihjcpgjpkcaaDoorKM1
import Derived.Test.YtgiihjcpgjpkcaaDoorKQK2
import Derived.Test.YtgiihjcpgjpkcaaDoorKQY
namespace Go.Proofs.YtgiihjcpgjpkcaaDoor.Q
open Go.RowKit Go.Proofs.YtgiihjcpgjpkcaaDoorW.PrintWords Go.Proofs.YtgiihjcpgjpkcaaDoorW.PrintLast Go.Proofs.YtgiihjcpgjpkcaaDoorW.PrintMore
set_option linter.unusedVariables false
set_option linter.unusedSimpArgs false
theorem catd_rd {ls : List (List S51)} {j : Nat} (h : j < ls.length) : rd_L3 ls (j : Int) = ls[j] := by
  unfold rd_L3
  rw [Int.toNat_natCast, List.getD_eq_getElem?_getD, List.getElem?_eq_getElem h]
  rfl
theorem catd_take {ls : List (List S51)} {j : Nat} (h : j < ls.length) : (ls.take (j + 1)).flatten = (ls.take j).flatten ++ ls[j] := by
  rw [List.take_succ_eq_append_getElem h, List.flatten_append]
  simp
theorem catd_le (ls : List (List S51)) (j : Nat) : (ls.take j).flatten.length ≤ ls.flatten.length := by
  have h := congrArg (fun l => (List.flatten l).length) (List.take_append_drop j ls)
  simp only [List.flatten_append, List.length_append] at h
  omega
theorem catd_l1 (ls : List (List S51)) (hT : ls.flatten.length ≤ 1000000) (hl : ls.length ≤ 10) : ∀ (m k j : Nat) (acc : List S51), ls.length = j + m → m < k → acc = (ls.take j).flatten → api_Event_85.l1 k acc ls ls.length j = some ls.flatten
  | 0, k, j, acc, hj, hk, ha => by
    obtain ⟨k, rfl⟩ : ∃ m, k = m + 1 := ⟨k - 1, by omega⟩
    simp only [api_Event_85.l1]
    rw [if_neg (by omega), ha, List.take_of_length_le (by omega)]
  | m + 1, k, j, acc, hj, hk, ha => by
    obtain ⟨k, rfl⟩ : ∃ m, k = m + 1 := ⟨k - 1, by omega⟩
    have hjl : j < ls.length := by omega
    have h1 := catd_le ls (j + 1)
    rw [catd_take hjl, List.length_append] at h1
    simp only [api_Event_85.l1]
    rw [if_pos (by omega), if_pos (by omega), if_pos (by omega), catd_rd hjl, if_pos (by rw [ha]; omega), show wrap64 ((j : Int) + 1) = ((j + 1 : Nat) : Int) from by unfold wrap64; omega]
    exact catd_l1 ls hT hl m k (j + 1) _ (by omega) (by omega) (by rw [ha, catd_take hjl])
theorem catd_l0 (ls : List (List S51)) (h0 : 0 < ls.flatten.length) (hT : ls.flatten.length ≤ 1000000) (hl : ls.length ≤ 10) : ∀ (m k j : Nat) (s : Int), ls.length = j + m → m + 40 ≤ k → s = (ls.take j).flatten.length → api_Event_85.l0 k ls s ls ls.length j = some ls.flatten
  | 0, k, j, s, hj, hk, hs => by
    obtain ⟨k, rfl⟩ : ∃ m, k = m + 1 := ⟨k - 1, by omega⟩
    rw [List.take_of_length_le (by omega)] at hs
    simp only [api_Event_85.l0]
    rw [if_neg (by omega)]
    unfold slices_GrowDay.f
    rw [if_pos ⟨rfl, by omega, by omega⟩]
    simp only [Option.bind_some]
    exact catd_l1 ls hT hl ls.length k 0 [] (by omega) (by omega) rfl
  | m + 1, k, j, s, hj, hk, hs => by
    obtain ⟨k, rfl⟩ : ∃ m, k = m + 1 := ⟨k - 1, by omega⟩
    have hjl : j < ls.length := by omega
    have h1 := catd_le ls (j + 1)
    rw [catd_take hjl, List.length_append] at h1
    simp only [api_Event_85.l0]
    rw [if_pos (by omega), if_pos (by omega), if_pos (by omega), catd_rd hjl, show wrap64 (s + (ls[j].length : Int)) = ((ls.take (j + 1)).flatten.length : Int) from by rw [catd_take hjl, List.length_append]; unfold wrap64; omega, if_neg (by omega), show wrap64 ((j : Int) + 1) = ((j + 1 : Nat) : Int) from by unfold wrap64; omega]
    exact catd_l0 ls h0 hT hl m k (j + 1) _ (by omega) (by omega) rfl
theorem catd_eq (ls : List (List S51)) (h0 : 0 < ls.flatten.length) (hT : ls.flatten.length ≤ 1000000) (hl : ls.length ≤ 10) (k : Nat) (hk : 60 ≤ k) : api_Event_85.f k ls = some ls.flatten := by
  unfold api_Event_85.f
  exact catd_l0 ls h0 hT hl ls.length k 0 0 (by omega) (by omega) rfl
def joinedErr (a b : List S51) : Int := if vd a = true then (if vd b = true then (if 32 < a.length + b.length then 2 else 0) else 40) else 40
theorem joined_no1 {a b : List S51} (ha : ¬ vd a = true) : joinedErr a b = 40 := by unfold joinedErr; rw [if_neg ha]
theorem joined_no2 {a b : List S51} (ha : vd a = true) (hb : ¬ vd b = true) : joinedErr a b = 40 := by unfold joinedErr; rw [if_pos ha, if_neg hb]
theorem joined_many {a b : List S51} (ha : vd a = true) (hb : vd b = true) (h : 32 < a.length + b.length) : joinedErr a b = 2 := by unfold joinedErr; rw [if_pos ha, if_pos hb, if_pos h]
theorem joined_ok {a b : List S51} (ha : vd a = true) (hb : vd b = true) (h : ¬ 32 < a.length + b.length) : joinedErr a b = 0 := by unfold joinedErr; rw [if_pos ha, if_pos hb, if_neg h]
theorem pJoined_eq (a b : List S51) (k : Nat) (hk : 2000 ≤ k) : refill_Joined.f k a b = some (if joinedErr a b = 0 then a ++ b else [], joinedErr a b) := by
  unfold refill_Joined.f
  rw [Check_eq a k (by omega), Check_eq b k (by omega)]
  by_cases ha : vd a = true
  · rw [if_pos ha]
    by_cases hb : vd b = true
    · have h1 := (vd_iff.1 ha)
      have h2 := (vd_iff.1 hb)
      rw [if_pos hb, Option.bind_some, if_pos rfl, Option.bind_some, if_pos rfl, show wrap64 ((a.length : Int) + (b.length : Int)) = (a.length : Int) + (b.length : Int) from by unfold wrap64; omega]
      by_cases h : 32 < a.length + b.length
      · rw [joined_many ha hb h, if_pos (by omega), if_neg (by decide)]
      · have hf : [a, b].flatten = a ++ b := by simp
        rw [joined_ok ha hb h, if_neg (by omega), if_pos rfl, catd_eq [a, b] (by rw [hf, List.length_append]; omega) (by rw [hf, List.length_append]; omega) (by simp) k (by omega), hf, Option.bind_some]
    · rw [if_neg hb, joined_no2 ha hb, Option.bind_some, if_pos rfl, Option.bind_some, if_neg (by decide), if_neg (by decide)]
  · rw [if_neg ha, joined_no1 ha, Option.bind_some, if_neg (by decide), if_neg (by decide)]
end Go.Proofs.YtgiihjcpgjpkcaaDoor.Q
