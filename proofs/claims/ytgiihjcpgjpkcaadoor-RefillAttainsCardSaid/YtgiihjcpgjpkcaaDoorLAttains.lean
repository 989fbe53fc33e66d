/- RefillAttains: the statement's own function answers true, at every day, index and minute; no program in sight. -/
import Derived.Test.YtgiihjcpgjpkcaaDoorHUpd
import Derived.Test.YtgiihjcpgjpkcaaDoorHRefE
import Derived.Test.YtgiihjcpgjpkcaaDoorHEqual
import Derived.Test.YtgiihjcpgjpkcaaDoorQJ
import Derived.Test.YtgiihjcpgjpkcaaDoorQWAttains
namespace Go.Proofs.YtgiihjcpgjpkcaaDoor.Q
open Go.RowKit Go.Proofs.YtgiihjcpgjpkcaaDoorW.PrintWords Go.Proofs.YtgiihjcpgjpkcaaDoorW.PrintLast Go.Proofs.YtgiihjcpgjpkcaaDoorW.PrintMore
set_option linter.unusedVariables false
set_option linter.unusedSimpArgs false

theorem copied_eq (d : List S51) (h : d.length ≤ 1000) : waterhourref04_copied.f d = some d := by
  unfold waterhourref04_copied.f
  simp only [Option.bind_some, List.length_nil, List.nil_append]
  rw [if_pos (by omega)]
theorem rAttain_eq (d : List S51) (i m : Int) (k : Nat) (hk : 2001 ≤ k) : waterhourref04_Attain.f k d i m = some (attainOf d i m) := by
  obtain ⟨k, rfl⟩ : ∃ m, k = m + 1 := ⟨k - 1, by omega⟩
  unfold waterhourref04_Attain.f
  rw [rPossible_eq d (k + 1) (by omega)]
  by_cases hv : vd d = true
  · simp only [hv, Bool.true_and, if_true, Option.bind_some, Event_eq]
    by_cases hi : 0 ≤ i ∧ i < d.length
    · rw [if_pos (decide_eq_true hi)]
      cases hc : (clashOf d).2.2 with
      | true =>
        simp only [Bool.not_true, Bool.false_eq_true, if_false]
        rw [attain_no hv hi (by rw [hc]; simp)]
      | false =>
        have jt : waterhourref04_Attain.j0 (k + 1) d i m true = some ([], false, 0) := by simp only [waterhourref04_Attain.j0, if_true]
        simp only [Bool.not_false, if_true]
        rw [rtime_eq hv hi.1 hi.2 (k + 1) (by omega)]
        simp only [Option.bind_some]
        by_cases h3 : m < (timeOf d i).1
        · rw [if_pos h3, jt, attain_no hv hi (by omega)]
        · rw [if_neg h3]
          by_cases h4 : m > (timeOf d i).2
          · rw [decide_eq_true h4, jt, attain_no hv hi (by omega)]
          · have hy : (clashOf d).2.2 = false ∧ (timeOf d i).1 ≤ m ∧ m ≤ (timeOf d i).2 := ⟨hc, by omega, by omega⟩
            have hl := (vd_iff.1 hv).2.1
            have ew : d.set i.toNat (⟨⟨(rd_T51 d i).f0.f0, (rd_T51 d i).f0.f1⟩, ⟨m, m⟩⟩ : S51) = withAt d i (m, m) := rfl
            rw [decide_eq_false h4, attain_yes hv hi hy]
            simp only [waterhourref04_Attain.j0]
            rw [if_neg (by decide), copied_eq d (by omega)]
            simp only [Option.bind_some]
            rw [if_pos hi.1, if_pos hi.2, ew, rEarliest_eq _ k (by omega), ready_one hv hi hy, withAt_length]
            rfl
    · rw [if_neg (by simpa using hi)]
      unfold attainOf
      rw [if_pos hv, if_neg hi]
  · unfold attainOf
    simp [hv]
theorem attain_short (d : List S51) (i m : Int) : (attainOf d i m).1.length ≤ 1000 := by
  unfold attainOf
  by_cases hv : vd d = true
  · have hl := (vd_iff.1 hv).2.1
    rw [if_pos hv]
    by_cases hi : 0 ≤ i ∧ i < d.length
    · rw [if_pos hi]
      by_cases h : (clashOf d).2.2 = false ∧ (timeOf d i).1 ≤ m ∧ m ≤ (timeOf d i).2
      · rw [if_pos h]
        simp only
        rw [endsTo_length]
        omega
      · rw [if_neg h]; simp
    · rw [if_neg hi]; simp
  · rw [if_neg hv]; simp
theorem law_Attains (d : List S51) (i m : Int) : waterhourlaw04_RefillAttains.f 3000 d i m = some true := by
  unfold waterhourlaw04_RefillAttains.f law_sane.f
  rw [few_nil d 3000 (by omega), pAttain_eq d i m 3000 (by omega), rAttain_eq d i m 3000 (by omega)]
  simp only [Option.bind_some, if_true, beq_self_eq_true]
  rw [Equal_same _ (attain_short d i m) 3000 (by omega)]
  simp only [Option.bind_some, if_true]
  split <;> rfl
end Go.Proofs.YtgiihjcpgjpkcaaDoor.Q
