/- Plain laws for RefillDays, no program in sight but the functions' names. -/
import Derived.Test.YtgiihjcpgjpkcaaDoorKHTime
import Derived.Test.YtgiihjcpgjpkcaaDoorKHClash
import Derived.Test.YtgiihjcpgjpkcaaDoorKQB
import Derived.Test.YtgiihjcpgjpkcaaDoorKQF
namespace Go.Proofs.YtgiihjcpgjpkcaaDoor.Q
open Go.RowKit Go.Proofs.YtgiihjcpgjpkcaaDoorW.PrintWords Go.Proofs.YtgiihjcpgjpkcaaDoorW.PrintLast Go.Proofs.YtgiihjcpgjpkcaaDoorW.PrintMore
theorem within_eq (a b lo hi : Int) : refill_within.f a b lo hi = some (decide (lo ≤ a ∧ a ≤ b ∧ b ≤ hi)) := by
  unfold refill_within.f
  by_cases h1 : a ≥ lo
  · rw [if_pos h1]
    by_cases h2 : a ≤ b
    · rw [if_pos h2]
      by_cases h3 : b ≤ hi
      · rw [decide_eq_true h3, decide_eq_true (show _ ∧ _ ∧ _ from ⟨h1, h2, h3⟩)]
      · rw [decide_eq_false h3, decide_eq_false (fun h => h3 h.2.2)]
    · rw [if_neg h2, decide_eq_false (fun h => h2 h.2.1)]
  · rw [if_neg h1, decide_eq_false (fun h => h1 h.1)]
theorem Check_l0 (d : List S51) (hl : d.length ≤ 32) : ∀ (m k j : Nat), d.length = j + m → m < k → refill_Check.l0 k d d.length j = some (if (d.drop j).all evOk = true then 0 else 40)
  | 0, k, j, hj, hk => by
    obtain ⟨k, rfl⟩ : ∃ m, k = m + 1 := ⟨k - 1, by omega⟩
    simp only [refill_Check.l0]
    rw [if_neg (by omega), List.drop_of_length_le (by omega)]
    rfl
  | m + 1, k, j, hj, hk => by
    obtain ⟨k, rfl⟩ : ∃ m, k = m + 1 := ⟨k - 1, by omega⟩
    have ih := Check_l0 d hl m k (j + 1) (by omega) (by omega)
    have w1 : wrap64 ((j : Int) + 1) = ((j + 1 : Nat) : Int) := by unfold wrap64; omega
    simp only [refill_Check.l0]
    rw [if_pos (by omega), if_pos (by omega), if_pos (by omega), rd_drop d j (by omega), List.all_cons]
    simp only [within_eq, Option.bind_some, refill_unknown.f]
    rw [w1, ih]
    generalize rd_T51 d (j : Int) = e
    by_cases h1 : 0 ≤ e.f0.f0 ∧ e.f0.f0 ≤ e.f0.f1 ∧ e.f0.f1 ≤ 524288
    · rw [if_pos (decide_eq_true h1)]
      by_cases h2 : e.f1.f0 = 1 ∧ e.f1.f1 = 0
      · have he : evOk e = true := evOk_iff.2 ⟨h1.1, h1.2.1, h1.2.2, .inr h2⟩
        rw [if_neg (by simp [h2]), he, Bool.true_and]
      · rw [if_pos (by simp; omega)]
        by_cases h3 : 0 ≤ e.f1.f0 ∧ e.f1.f0 ≤ e.f1.f1 ∧ e.f1.f1 ≤ 16777216
        · have he : evOk e = true := evOk_iff.2 ⟨h1.1, h1.2.1, h1.2.2, .inl h3⟩
          rw [if_pos (decide_eq_true h3), he, Bool.true_and]
        · have he : evOk e = false := Bool.eq_false_iff.2 fun h => (evOk_iff.1 h).2.2.2.elim h3 h2
          rw [if_neg (by simpa using h3), he, Bool.false_and]
          rfl
    · have he : evOk e = false := Bool.eq_false_iff.2 fun h => h1 ⟨(evOk_iff.1 h).1, (evOk_iff.1 h).2.1, (evOk_iff.1 h).2.2.1⟩
      rw [if_neg (by simpa using h1), he, Bool.false_and]
      rfl
theorem Check_eq (d : List S51) (k : Nat) (hk : 40 ≤ k) : refill_Check.f k d = some (if vd d = true then 0 else 40) := by
  obtain ⟨k, rfl⟩ : ∃ m, k = m + 1 := ⟨k - 1, by omega⟩
  unfold refill_Check.f
  by_cases h1 : (d.length : Int) < 1
  · rw [if_pos h1]
    simp only [refill_Check.j0, if_true]
    rw [if_neg (fun h => by have := (vd_iff.1 h).1; omega)]
  · rw [if_neg h1]
    by_cases h2 : (d.length : Int) > 32
    · rw [decide_eq_true h2]
      simp only [refill_Check.j0, if_true]
      rw [if_neg (fun h => by have := (vd_iff.1 h).2.1; omega)]
    · rw [decide_eq_false h2]
      simp only [refill_Check.j0, Bool.false_eq_true, if_false]
      have := Check_l0 d (by omega) d.length k 0 (by omega) (by omega)
      rw [List.drop_zero] at this
      refine this.trans ?_
      congr 1
      have e : vd d = d.all evOk := by
        unfold vd
        rw [decide_eq_true (show 1 ≤ d.length by omega), decide_eq_true (show d.length ≤ 32 by omega), Bool.true_and, Bool.true_and]
      rw [e]
def inds (d : List S51) (least : Int) (l : List Int) : Bool := l.all fun i => decide (least ≤ i) && decide (i < d.length)
theorem event_l0 (d : List S51) (least : Int) (l : List Int) (hl : l.length ≤ 30) : ∀ (m k j : Nat), l.length = j + m → m < k → refill_event.l0 k d least l l.length j = some (if inds d least (l.drop j) = true then 0 else 1)
  | 0, k, j, hj, hk => by
    obtain ⟨k, rfl⟩ : ∃ m, k = m + 1 := ⟨k - 1, by omega⟩
    simp only [refill_event.l0]
    rw [if_neg (by omega), List.drop_of_length_le (by omega)]
    rfl
  | m + 1, k, j, hj, hk => by
    obtain ⟨k, rfl⟩ : ∃ m, k = m + 1 := ⟨k - 1, by omega⟩
    have ih := event_l0 d least l hl m k (j + 1) (by omega) (by omega)
    have w1 : wrap64 ((j : Int) + 1) = ((j + 1 : Nat) : Int) := by unfold wrap64; omega
    have hd : l.drop j = rd l (j : Int) :: l.drop (j + 1) := by
      rw [List.drop_eq_getElem_cons (by omega)]
      congr 1
      simp [rd, show j < l.length by omega]
    simp only [refill_event.l0]
    rw [if_pos (by omega), if_pos (by omega), if_pos (by omega), w1, ih, hd]
    unfold inds
    rw [List.all_cons]
    generalize rd l (j : Int) = e
    by_cases h1 : e < least
    · rw [if_pos h1, decide_eq_false (show ¬ least ≤ e by omega)]
      simp
    · rw [if_neg h1, decide_eq_true (show least ≤ e by omega)]
      by_cases h2 : e ≥ d.length
      · rw [if_pos h2, decide_eq_false (show ¬ e < d.length by omega)]
        simp
      · rw [if_neg h2, decide_eq_true (show e < d.length by omega)]
        simp
theorem event_eq (d : List S51) (least : Int) (l : List Int) (hl : l.length ≤ 30) (k : Nat) (hk : 40 ≤ k) : refill_event.f k d least l = some (if vd d = true then (if inds d least l = true then 0 else 1) else 40) := by
  unfold refill_event.f
  rw [Check_eq d k hk]
  simp only [Option.bind_some]
  by_cases h : vd d = true
  · rw [if_pos h, if_pos rfl, if_pos h]
    have := event_l0 d least l hl l.length k 0 (by omega) (by omega)
    rwa [List.drop_zero] at this
  · rw [if_neg h, if_neg h]
    rfl
theorem possible_eq {d : List S51} (hv : vd d = true) : refill_possible.f d = some (!(clashOf d).2.2) := by
  unfold refill_possible.f refill_clash.f
  rw [if_pos hv]
  rfl
theorem ready_eq (d : List S51) (least : Int) (l : List Int) (hl : l.length ≤ 30) (k : Nat) (hk : 40 ≤ k) : refill_ready.f k d least l = some (if vd d = true then (if inds d least l = true then (if (clashOf d).2.2 = true then 31 else 0) else 1) else 40) := by
  unfold refill_ready.f
  rw [event_eq d least l hl k hk]
  simp only [Option.bind_some]
  by_cases h : vd d = true
  · rw [if_pos h, if_pos h]
    by_cases hi : inds d least l = true
    · rw [if_pos hi, if_pos hi, if_pos rfl, possible_eq h]
      cases (clashOf d).2.2 <;> rfl
    · rw [if_neg hi, if_neg hi]
      rfl
  · rw [if_neg h, if_neg h]
    rfl
end Go.Proofs.YtgiihjcpgjpkcaaDoor.Q
