/- Lists and days that are equal: what the comparing functions tell of the same one; no program in sight. -/
import Derived.Test.YtgiihjcpgjpkcaaDoorHSpec
import Derived.Test.YtgiihjcpgjpkcaaDoorQI
import Derived.Test.YtgiihjcpgjpkcaaDoorQM
namespace Go.Proofs.YtgiihjcpgjpkcaaDoor.Q
open Go.RowKit Go.Proofs.YtgiihjcpgjpkcaaDoorW.PrintWords Go.Proofs.YtgiihjcpgjpkcaaDoorW.PrintLast Go.Proofs.YtgiihjcpgjpkcaaDoorW.PrintMore
set_option linter.unusedVariables false
set_option linter.unusedSimpArgs false

theorem Equal_l0 (l : List Int) (hl : l.length ≤ 1000) : ∀ (m k n : Nat), l.length = n + m → m < k → slices_Equal_int_int.l0 k l l l.length n = some true
  | 0, k, n, hn, hk => by
    obtain ⟨k, rfl⟩ : ∃ m, k = m + 1 := ⟨k - 1, by omega⟩
    simp only [slices_Equal_int_int.l0]
    rw [if_neg (by omega)]
  | m + 1, k, n, hn, hk => by
    obtain ⟨k, rfl⟩ : ∃ m, k = m + 1 := ⟨k - 1, by omega⟩
    simp only [slices_Equal_int_int.l0]
    rw [if_pos (by omega), if_pos (by omega), if_pos (by omega), if_pos (by omega), if_pos trivial, show wrap64 ((n : Int) + 1) = ((n + 1 : Nat) : Int) from by unfold wrap64; omega]
    exact Equal_l0 l hl m k (n + 1) (by omega) (by omega)
theorem Equal_same (l : List Int) (hl : l.length ≤ 1000) (k : Nat) (hk : 1001 ≤ k) : slices_Equal_int_int.f k l l = some true := by
  unfold slices_Equal_int_int.f
  rw [if_pos rfl]
  exact Equal_l0 l hl l.length k 0 (by omega) (by omega)
theorem Same_l0 (l : List S51) (hl : l.length ≤ 1000) : ∀ (m k n : Nat), l.length = n + m → m < k → waterhourref04_Same.l0 k l l n = some true
  | 0, k, n, hn, hk => by
    obtain ⟨k, rfl⟩ : ∃ m, k = m + 1 := ⟨k - 1, by omega⟩
    simp only [waterhourref04_Same.l0]
    rw [if_neg (by omega)]
  | m + 1, k, n, hn, hk => by
    obtain ⟨k, rfl⟩ : ∃ m, k = m + 1 := ⟨k - 1, by omega⟩
    simp only [waterhourref04_Same.l0]
    rw [if_pos (by omega), if_pos (by omega), if_pos (by omega), if_neg (by simp), show wrap64 ((n : Int) + 1) = ((n + 1 : Nat) : Int) from by unfold wrap64; omega]
    exact Same_l0 l hl m k (n + 1) (by omega) (by omega)
theorem Same_self (l : List S51) (hl : l.length ≤ 1000) (k : Nat) (hk : 1001 ≤ k) : waterhourref04_Same.f k l l = some true := by
  unfold waterhourref04_Same.f
  rw [if_pos rfl]
  exact Same_l0 l hl l.length k 0 (by omega) (by omega)
theorem wrap_small {x : Int} (h : -9000000000000000000 ≤ x) (h' : x ≤ 9000000000000000000) : wrap64 x = x := by unfold wrap64; omega
end Go.Proofs.YtgiihjcpgjpkcaaDoor.Q
