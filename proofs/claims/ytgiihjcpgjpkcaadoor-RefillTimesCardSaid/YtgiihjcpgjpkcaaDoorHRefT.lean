/- What the reference says of minutes; no program in sight. -/
import Derived.Test.YtgiihjcpgjpkcaaDoorHRefE
import Derived.Test.YtgiihjcpgjpkcaaDoorQP
import Derived.Test.YtgiihjcpgjpkcaaDoorQQ
namespace Go.Proofs.YtgiihjcpgjpkcaaDoor.Q
open Go.RowKit Go.Proofs.YtgiihjcpgjpkcaaDoorW.PrintWords Go.Proofs.YtgiihjcpgjpkcaaDoorW.PrintLast Go.Proofs.YtgiihjcpgjpkcaaDoorW.PrintMore
set_option linter.unusedVariables false
set_option linter.unusedSimpArgs false

theorem rLatest_l0 {d : List S51} (hv : vd d = true) : ∀ (m k n : Nat), d.length = n + m → m + 200 ≤ k → waterhourref04_Latest.l0 k d (endsTo true d n) n = some (endsTo true d d.length, 0)
  | 0, k, n, hn, hk => by
    obtain ⟨k, rfl⟩ : ∃ m, k = m + 1 := ⟨k - 1, by omega⟩
    simp only [waterhourref04_Latest.l0]
    obtain rfl : d.length = n := by omega
    rw [if_neg (by omega)]
  | m + 1, k, n, hn, hk => by
    obtain ⟨k, rfl⟩ : ∃ m, k = m + 1 := ⟨k - 1, by omega⟩
    have hl32 := (vd_iff.1 hv).2.1
    have ih := rLatest_l0 hv m k (n + 1) (by omega) (by omega)
    simp only [waterhourref04_Latest.l0]
    rw [if_pos (by omega), rtime_eq hv (by omega) (by omega) k (by omega), show wrap64 ((n : Int) + 1) = ((n + 1 : Nat) : Int) from by unfold wrap64; omega]
    simp only [Option.bind_some]
    rw [if_pos (by rw [endsTo_length]; omega), show endsTo true d n ++ [(timeOf d (n : Int)).2] = endsTo true d (n + 1) from (endsTo_succ true d n).symm]
    exact ih
theorem rLatest_eq (d : List S51) (k : Nat) (hk : 2000 ≤ k) : waterhourref04_Latest.f k d = some (if readyE d = 0 then endsTo true d d.length else [], readyE d) := by
  unfold waterhourref04_Latest.f
  rw [rfirst_E d k hk]
  simp only [Option.bind_some]
  by_cases h : readyE d = 0
  · obtain ⟨hv, hc⟩ := readyE_zero h
    have hl32 := (vd_iff.1 hv).2.1
    rw [if_pos h, if_pos h, h]
    exact rLatest_l0 hv d.length k 0 (by omega) (by omega)
  · rw [if_neg h, if_neg h]
theorem rCheck_eq (d : List S51) (k : Nat) (hk : 2000 ≤ k) : waterhourref04_Check.f k d = some (if vd d = true then 0 else 40) := by
  unfold waterhourref04_Check.f
  rw [Valid_eq d k (by omega)]
  simp only [Option.bind_some]
  split <;> rfl
theorem rTime_eq (d : List S51) (i : Int) (k : Nat) (hk : 2000 ≤ k) : waterhourref04_Time.f k d i = some (if readyA d i = 0 then ((timeOf d i).1, (timeOf d i).2, 0) else (0, 0, readyA d i)) := by
  unfold waterhourref04_Time.f
  rw [rfirst_A d i k hk]
  simp only [Option.bind_some]
  by_cases h : readyA d i = 0
  · obtain ⟨hv, hi, hc⟩ := readyA_zero h
    rw [if_pos h, if_pos h, rtime_eq hv hi.1 hi.2 k (by omega)]
    rfl
  · rw [if_neg h, if_neg h]
theorem rBetween_eq (d : List S51) (a b : Int) (k : Nat) (hk : 2000 ≤ k) : waterhourref04_Between.f k d a b = some (if betweenErr d a b = 0 then ((betweenOf d a b).1, (betweenOf d a b).2, 0) else (0, 0, betweenErr d a b)) := by
  obtain ⟨k, rfl⟩ : ∃ m, k = m + 1 := ⟨k - 1, by omega⟩
  unfold waterhourref04_Between.f
  rw [rPossible_eq d (k + 1) hk]
  by_cases hv : vd d = true
  · simp only [hv, if_true, Option.bind_some, Event_eq, waterhourref04_Between.j0, decide_eq_true_eq, Bool.true_and]
    by_cases h1 : -1 ≤ a ∧ a < d.length
    · rw [if_pos h1]
      by_cases h2 : 0 ≤ b ∧ b < d.length
      · rw [if_pos h2]
        by_cases h3 : a ≥ b
        · rw [if_pos h3, betweenErr_arg hv (by omega)]
          rfl
        · rw [if_neg h3, betweenErr_yes hv (by omega)]
          cases hc : (clashOf d).2.2 with
          | false =>
            simp only [Bool.not_false, if_true, Bool.false_eq_true, if_false]
            have tb := time_bound hv (i := b) h2.1 h2.2
            rw [way_eq hv h1.1 (by omega) h2.2 k (by omega), rtime_eq hv h2.1 h2.2 k (by omega)]
            simp only [Option.bind_some]
            unfold betweenOf timeB
            by_cases h4 : a ≥ 0
            · have ta := time_bound hv (i := a) h4 (by omega)
              rw [if_pos h4, rtime_eq hv h4 (by omega) k (by omega), if_pos h4]
              simp only [Option.bind_some]
              rw [show wrap64 ((timeOf d b).1 - (timeOf d a).2) = (timeOf d b).1 - (timeOf d a).2 from by unfold wrap64; omega, show wrap64 ((timeOf d b).2 - (timeOf d a).1) = (timeOf d b).2 - (timeOf d a).1 from by unfold wrap64; omega]
            · rw [if_neg h4, if_neg h4]
              simp only [Int.sub_zero]
              rw [show wrap64 (timeOf d b).1 = (timeOf d b).1 from by unfold wrap64; omega, show wrap64 (timeOf d b).2 = (timeOf d b).2 from by unfold wrap64; omega]
          | true => rfl
      · rw [if_neg h2, betweenErr_arg hv (by omega)]
        rfl
    · rw [if_neg h1, betweenErr_arg hv (by omega)]
      rfl
  · have hE : betweenErr d a b = 40 := by unfold betweenErr; rw [if_neg hv]
    simp [hv, hE]
end Go.Proofs.YtgiihjcpgjpkcaaDoor.Q
