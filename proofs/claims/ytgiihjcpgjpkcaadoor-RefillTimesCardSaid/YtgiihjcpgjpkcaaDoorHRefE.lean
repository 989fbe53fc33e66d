/- What the reference says of the earliest minutes; no program in sight. -/
import Derived.Test.YtgiihjcpgjpkcaaDoorHRefB
import Derived.Test.YtgiihjcpgjpkcaaDoorQDc
namespace Go.Proofs.YtgiihjcpgjpkcaaDoor.Q
open Go.RowKit Go.Proofs.YtgiihjcpgjpkcaaDoorW.PrintWords Go.Proofs.YtgiihjcpgjpkcaaDoorW.PrintLast Go.Proofs.YtgiihjcpgjpkcaaDoorW.PrintMore
set_option linter.unusedVariables false
set_option linter.unusedSimpArgs false

theorem rEarliest_l0 {d : List S51} (hv : vd d = true) : ∀ (m k n : Nat), d.length = n + m → m + 200 ≤ k → waterhourref04_Earliest.l0 k d (endsTo false d n) n = some (endsTo false d d.length, 0)
  | 0, k, n, hn, hk => by
    obtain ⟨k, rfl⟩ : ∃ m, k = m + 1 := ⟨k - 1, by omega⟩
    simp only [waterhourref04_Earliest.l0]
    obtain rfl : d.length = n := by omega
    rw [if_neg (by omega)]
  | m + 1, k, n, hn, hk => by
    obtain ⟨k, rfl⟩ : ∃ m, k = m + 1 := ⟨k - 1, by omega⟩
    have hl32 := (vd_iff.1 hv).2.1
    have ih := rEarliest_l0 hv m k (n + 1) (by omega) (by omega)
    simp only [waterhourref04_Earliest.l0]
    rw [if_pos (by omega), rtime_eq hv (by omega) (by omega) k (by omega), show wrap64 ((n : Int) + 1) = ((n + 1 : Nat) : Int) from by unfold wrap64; omega]
    simp only [Option.bind_some]
    rw [if_pos (by rw [endsTo_length]; omega), show endsTo false d n ++ [(timeOf d (n : Int)).1] = endsTo false d (n + 1) from (endsTo_succ false d n).symm]
    exact ih
theorem rEarliest_eq (d : List S51) (k : Nat) (hk : 2000 ≤ k) : waterhourref04_Earliest.f k d = some (if readyE d = 0 then endsTo false d d.length else [], readyE d) := by
  unfold waterhourref04_Earliest.f
  rw [rfirst_E d k hk]
  simp only [Option.bind_some]
  by_cases h : readyE d = 0
  · obtain ⟨hv, hc⟩ := readyE_zero h
    have hl32 := (vd_iff.1 hv).2.1
    rw [if_pos h, if_pos h, h]
    exact rEarliest_l0 hv d.length k 0 (by omega) (by omega)
  · rw [if_neg h, if_neg h]
end Go.Proofs.YtgiihjcpgjpkcaaDoor.Q
