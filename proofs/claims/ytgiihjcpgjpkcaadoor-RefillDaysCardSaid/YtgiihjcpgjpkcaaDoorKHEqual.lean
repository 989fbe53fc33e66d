/- Contracts walked by hand and lemmas for them, as far as RefillDays needs them. -/
import Derived.Test.YtgiihjcpgjpkcaaDoorKM1
import Derived.Test.YtgiihjcpgjpkcaaDoorKQI
import Derived.Test.YtgiihjcpgjpkcaaDoorKQM
namespace Go.Proofs.YtgiihjcpgjpkcaaDoor.Q
open Go.RowKit Go.Proofs.YtgiihjcpgjpkcaaDoorW.PrintWords Go.Proofs.YtgiihjcpgjpkcaaDoorW.PrintLast Go.Proofs.YtgiihjcpgjpkcaaDoorW.PrintMore
set_option linter.unusedVariables false
set_option linter.unusedSimpArgs false
theorem Same_l0 (l : List S51) (hl : l.length ≤ 1000) : ∀ (m k n : Nat), l.length = n + m → m < k → waterhourref04_Same.l0 k l l n = some true
  | 0, k, n, hn, hk => by
    obtain ⟨k, rfl⟩ : ∃ m, k = m + 1 := ⟨k - 1, by omega⟩
    simp only [waterhourref04_Same.l0]
    rw [if_neg (by omega)]
  | m + 1, k, n, hn, hk => by
    obtain ⟨k, rfl⟩ : ∃ m, k = m + 1 := ⟨k - 1, by omega⟩
    simp only [waterhourref04_Same.l0]
    rw [if_pos (by omega), if_pos (by omega), if_pos (by omega), if_neg (by simp), show wrap64 ((n : Int) + 1) = ((n + 1 : Nat) : Int) from by unfold wrap64; omega]
    exact Same_l0 l hl m k (n + 1) (by omega) (by omega)
theorem Same_self (l : List S51) (hl : l.length ≤ 1000) (k : Nat) (hk : 1001 ≤ k) : waterhourref04_Same.f k l l = some true := by
  unfold waterhourref04_Same.f
  rw [if_pos rfl]
  exact Same_l0 l hl l.length k 0 (by omega) (by omega)
end Go.Proofs.YtgiihjcpgjpkcaaDoor.Q
