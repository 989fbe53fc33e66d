/- RefillTimes: the statement's own function answers true, at every day, list and indices; no program in sight. -/
import Derived.Test.YtgiihjcpgjpkcaaDoorHRefT
import Derived.Test.YtgiihjcpgjpkcaaDoorHAns
import Derived.Test.YtgiihjcpgjpkcaaDoorHEqual
import Derived.Test.YtgiihjcpgjpkcaaDoorHRCheck
import Derived.Test.YtgiihjcpgjpkcaaDoorQWTimes
namespace Go.Proofs.YtgiihjcpgjpkcaaDoor.Q
open Go.RowKit Go.Proofs.YtgiihjcpgjpkcaaDoorW.PrintWords Go.Proofs.YtgiihjcpgjpkcaaDoorW.PrintLast Go.Proofs.YtgiihjcpgjpkcaaDoorW.PrintMore
theorem ends_short (d : List S51) (lat : Bool) : (if readyE d = 0 then endsTo lat d d.length else []).length ≤ 1000 := by
  split
  · rename_i h
    have := (vd_iff.1 (readyE_zero h).1).2.1
    rw [endsTo_length]; omega
  · simp
theorem times_j1 (d : List S51) (i a b : Int) (k : Nat) (hk : 2000 ≤ k) : waterhourlaw04_RefillTimes.j1 (k + 1) d i a b false = some true := by
  simp only [waterhourlaw04_RefillTimes.j1]
  rw [if_neg (by decide), pTime_eq d i k hk, rTime_eq d i k hk, pBetween_eq d a b k hk, rBetween_eq d a b k hk]
  simp only [Option.bind_some, beq_self_eq_true, Bool.and_self, if_true]
theorem times_j0 (d : List S51) (i a b : Int) (k : Nat) (hk : 2001 ≤ k) : waterhourlaw04_RefillTimes.j0 (k + 1) d i a b false = some true := by
  obtain ⟨k, rfl⟩ : ∃ m, k = m + 1 := ⟨k - 1, by omega⟩
  simp only [waterhourlaw04_RefillTimes.j0]
  rw [if_neg (by decide), pPossible_eq d (k + 1) (by omega), rPossible_eq d (k + 1) (by omega), rEarliest_eq d (k + 1) (by omega), rLatest_eq d (k + 1) (by omega)]
  unfold refill_Earliest.f refill_Latest.f
  simp only [Option.bind_some, bne_self_eq_false, Bool.false_eq_true, if_false, if_true]
  rw [Equal_same _ (ends_short d false) (k + 1) (by omega), Equal_same _ (ends_short d true) (k + 1) (by omega)]
  simp only [Option.bind_some, if_true]
  exact times_j1 d i a b k (by omega)
theorem law_Times (d : List S51) (l : List Int) (i a b : Int) : waterhourlaw04_RefillTimes.f 3000 d l i a b = some true := by
  unfold waterhourlaw04_RefillTimes.f law_sane.f
  rw [few_one d l 3000 (by omega), Check_eq d 3000 (by omega), rCheck_eq d 3000 (by omega)]
  simp only [Option.bind_some, if_true, refill_CheckTimes.f, waterhourref04_CheckTimes.f, bne_self_eq_false]
  have hj : waterhourlaw04_RefillTimes.j0 3000 d i a b false = some true := times_j0 d i a b 2999 (by omega)
  rw [hj]
  split <;> rfl
end Go.Proofs.YtgiihjcpgjpkcaaDoor.Q
