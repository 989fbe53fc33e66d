/- What the reference says of days that are valid; no program in sight. -/
import Derived.Test.YtgiihjcpgjpkcaaDoorHSpec
import Derived.Test.YtgiihjcpgjpkcaaDoorQC
namespace Go.Proofs.YtgiihjcpgjpkcaaDoor.Q
open Go.RowKit Go.Proofs.YtgiihjcpgjpkcaaDoorW.PrintWords Go.Proofs.YtgiihjcpgjpkcaaDoorW.PrintLast Go.Proofs.YtgiihjcpgjpkcaaDoorW.PrintMore
set_option linter.unusedVariables false
set_option linter.unusedSimpArgs false

theorem minutes_eq (a b most : Int) : waterhourref04_minutes.f a b most = some (decide (0 ≤ a ∧ a ≤ b ∧ b ≤ most)) := by
  unfold waterhourref04_minutes.f
  by_cases h1 : a ≥ 0
  · rw [if_pos h1]
    by_cases h2 : a ≤ b
    · rw [if_pos h2]
      by_cases h3 : b ≤ most
      · rw [decide_eq_true h3, decide_eq_true (show _ ∧ _ ∧ _ from ⟨h1, h2, h3⟩)]
      · rw [decide_eq_false h3, decide_eq_false (fun h => h3 h.2.2)]
    · rw [if_neg h2, decide_eq_false (fun h => h2 h.2.1)]
  · rw [if_neg h1, decide_eq_false (fun h => h1 h.1)]
theorem Event_eq (d : List S51) (i least : Int) : waterhourref04_Event.f d i least = some (decide (least ≤ i ∧ i < d.length)) := by
  unfold waterhourref04_Event.f
  by_cases h1 : i ≥ least
  · rw [if_pos h1]
    by_cases h2 : i < d.length
    · rw [decide_eq_true h2, decide_eq_true (show _ ∧ _ from ⟨h1, h2⟩)]
    · rw [decide_eq_false h2, decide_eq_false (fun h => h2 h.2)]
  · rw [if_neg h1, decide_eq_false (fun h => h1 h.1)]
theorem Valid_l0 (d : List S51) (hl : d.length ≤ 32) : ∀ (m k j : Nat), d.length = j + m → m < k → waterhourref04_Valid.l0 k d j = some ((d.drop j).all evOk)
  | 0, k, j, hj, hk => by
    obtain ⟨k, rfl⟩ : ∃ m, k = m + 1 := ⟨k - 1, by omega⟩
    simp only [waterhourref04_Valid.l0]
    rw [if_neg (by omega), List.drop_of_length_le (by omega)]
    rfl
  | m + 1, k, j, hj, hk => by
    obtain ⟨k, rfl⟩ : ∃ m, k = m + 1 := ⟨k - 1, by omega⟩
    have ih := Valid_l0 d hl m k (j + 1) (by omega) (by omega)
    have w1 : wrap64 ((j : Int) + 1) = ((j + 1 : Nat) : Int) := by unfold wrap64; omega
    simp only [waterhourref04_Valid.l0]
    rw [if_pos (by omega), if_pos (by omega), rd_drop d j (by omega), List.all_cons]
    simp only [minutes_eq, Option.bind_some]
    rw [w1, ih]
    generalize rd_T51 d (j : Int) = e
    by_cases h1 : 0 ≤ e.f0.f0 ∧ e.f0.f0 ≤ e.f0.f1 ∧ e.f0.f1 ≤ 524288
    · rw [if_pos (decide_eq_true h1)]
      by_cases h3 : 0 ≤ e.f1.f0 ∧ e.f1.f0 ≤ e.f1.f1 ∧ e.f1.f1 ≤ 16777216
      · have he : evOk e = true := evOk_iff.2 ⟨h1.1, h1.2.1, h1.2.2, .inl h3⟩
        rw [if_pos (decide_eq_true h3), he, Bool.true_and]
      · rw [if_neg (by simpa using h3)]
        by_cases h4 : e.f1.f0 = 1
        · rw [if_pos h4]
          by_cases h5 : e.f1.f1 = 0
          · have he : evOk e = true := evOk_iff.2 ⟨h1.1, h1.2.1, h1.2.2, .inr ⟨h4, h5⟩⟩
            simp [h5, he]
          · have he : evOk e = false := Bool.eq_false_iff.2 fun h => (evOk_iff.1 h).2.2.2.elim h3 (fun q => h5 q.2)
            simp [h5, he]
        · have he : evOk e = false := Bool.eq_false_iff.2 fun h => (evOk_iff.1 h).2.2.2.elim h3 (fun q => h4 q.1)
          simp [h4, he]
    · have he : evOk e = false := Bool.eq_false_iff.2 fun h => h1 ⟨(evOk_iff.1 h).1, (evOk_iff.1 h).2.1, (evOk_iff.1 h).2.2.1⟩
      rw [if_neg (by simpa using h1), he, Bool.false_and]
theorem Valid_eq (d : List S51) (k : Nat) (hk : 40 ≤ k) : waterhourref04_Valid.f k d = some (vd d) := by
  obtain ⟨k, rfl⟩ : ∃ m, k = m + 1 := ⟨k - 1, by omega⟩
  unfold waterhourref04_Valid.f
  by_cases h1 : (d.length : Int) < 1
  · rw [if_pos h1]
    simp only [waterhourref04_Valid.j0, if_true]
    have : vd d = false := Bool.eq_false_iff.2 fun h => by have := (vd_iff.1 h).1; omega
    rw [this]
  · rw [if_neg h1]
    by_cases h2 : (d.length : Int) > 32
    · rw [decide_eq_true h2]
      simp only [waterhourref04_Valid.j0, if_true]
      have : vd d = false := Bool.eq_false_iff.2 fun h => by have := (vd_iff.1 h).2.1; omega
      rw [this]
    · rw [decide_eq_false h2]
      simp only [waterhourref04_Valid.j0, Bool.false_eq_true, if_false]
      have := Valid_l0 d (by omega) d.length k 0 (by omega) (by omega)
      rw [Int.natCast_zero] at this
      rw [this, List.drop_zero]
      congr 1
      rw [Bool.eq_iff_iff, vd_iff, List.all_eq_true]
      exact ⟨fun h => ⟨by omega, by omega, h⟩, fun h => h.2.2⟩
end Go.Proofs.YtgiihjcpgjpkcaaDoor.Q
