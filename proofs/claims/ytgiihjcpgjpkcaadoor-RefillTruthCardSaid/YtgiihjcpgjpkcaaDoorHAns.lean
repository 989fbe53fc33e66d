/- What the program's functions answer, as plain functions of the day; no program in sight. -/
import Derived.Test.YtgiihjcpgjpkcaaDoorHSpec
import Derived.Test.YtgiihjcpgjpkcaaDoorQF
import Derived.Test.YtgiihjcpgjpkcaaDoorQG
import Derived.Test.YtgiihjcpgjpkcaaDoorQI
import Derived.Test.YtgiihjcpgjpkcaaDoorQO
namespace Go.Proofs.YtgiihjcpgjpkcaaDoor.Q
open Go.RowKit Go.Proofs.YtgiihjcpgjpkcaaDoorW.PrintWords Go.Proofs.YtgiihjcpgjpkcaaDoorW.PrintLast Go.Proofs.YtgiihjcpgjpkcaaDoorW.PrintMore
set_option linter.unusedVariables false
set_option linter.unusedSimpArgs false

theorem few_nil (d : List S51) (k : Nat) (hk : 2 ≤ k) : waterhourlaw04_few.f k d [] = some (decide ((d.length : Int) ≤ 100)) := by
  obtain ⟨k, rfl⟩ : ∃ m, k = m + 1 := ⟨k - 1, by omega⟩
  unfold waterhourlaw04_few.f
  simp [waterhourlaw04_few.l0]
theorem few_one (d : List S51) (l : List Int) (k : Nat) (hk : 3 ≤ k) : waterhourlaw04_few.f k d [l] = some (decide ((l.length : Int) ≤ 100) && decide ((d.length : Int) ≤ 100)) := by
  obtain ⟨k, rfl⟩ : ∃ m, k = m + 2 := ⟨k - 2, by omega⟩
  unfold waterhourlaw04_few.f
  have e : rd_L5 [l] 0 = l := rfl
  simp only [waterhourlaw04_few.l0, List.length_cons, List.length_nil, Nat.reduceAdd, e]
  rw [if_pos (by omega), if_pos (by omega), if_pos (by omega), show wrap64 (0 + 1) = 1 from by unfold wrap64; omega]
  by_cases h : (l.length : Int) > 100
  · rw [if_pos h, decide_eq_false (by omega), Bool.false_and]
  · rw [if_neg h, if_neg (by omega), decide_eq_true (show (l.length : Int) ≤ 100 by omega), Bool.true_and]
theorem few_two (d : List S51) (l m : List Int) (k : Nat) (hk : 4 ≤ k) : waterhourlaw04_few.f k d [l, m] = some (decide ((l.length : Int) ≤ 100) && decide ((m.length : Int) ≤ 100) && decide ((d.length : Int) ≤ 100)) := by
  obtain ⟨k, rfl⟩ : ∃ m, k = m + 3 := ⟨k - 3, by omega⟩
  unfold waterhourlaw04_few.f
  have e : rd_L5 [l, m] 0 = l := rfl
  have e1 : rd_L5 [l, m] 1 = m := rfl
  simp only [waterhourlaw04_few.l0, List.length_cons, List.length_nil, Nat.reduceAdd, e]
  rw [if_pos (by omega), if_pos (by omega), if_pos (by omega), show wrap64 (0 + 1) = 1 from by unfold wrap64; omega]
  by_cases h : (l.length : Int) > 100
  · rw [if_pos h, decide_eq_false (show ¬ (l.length : Int) ≤ 100 by omega), Bool.false_and, Bool.false_and]
  · rw [if_neg h, decide_eq_true (show (l.length : Int) ≤ 100 by omega), Bool.true_and]
    simp only [e1]
    rw [if_pos (by omega), if_pos (by omega), if_pos (by omega), show wrap64 (1 + 1) = 2 from by unfold wrap64; omega]
    by_cases h2 : (m.length : Int) > 100
    · rw [if_pos h2, decide_eq_false (show ¬ (m.length : Int) ≤ 100 by omega), Bool.false_and]
    · rw [if_neg h2, if_neg (by omega), decide_eq_true (show (m.length : Int) ≤ 100 by omega), Bool.true_and]

theorem pClash_eq (d : List S51) (k : Nat) (hk : 2000 ≤ k) : refill_Clash.f k d = some (if vd d = true then ((clashOf d).1, (clashOf d).2.1, (clashOf d).2.2, 0) else (0, 0, false, 40)) := by
  unfold refill_Clash.f
  rw [Check_eq d k (by omega)]
  by_cases hv : vd d = true
  · simp [hv, refill_clash.f]
  · simp [hv]
theorem cannot_eqk {d : List S51} (hv : vd d = true) {a b : Int} (ha : -1 ≤ a) (hab : a ≤ b) (hb : b < d.length) (k : Nat) (hk : 33 ≤ k) : refill_cannot.f k d a (atOf d a).f0 (atOf d a).f1 b (atOf d b).f0 (atOf d b).f1 = some (cannotB d a b) :=
  at_rounds (fun k => refill_cannot.mono _ _ _ _ _ _ _ k) hk (cannot_eq hv ha hab hb)
def checkClashOf (d : List S51) (a b : Int) : Int := if vd d = true then (if -1 ≤ a ∧ a < d.length ∧ 0 ≤ b ∧ b < d.length ∧ a < b then (if pairC d a b = true then 0 else 32) else 1) else 40
theorem pCheckClash_eq (d : List S51) (a b : Int) (k : Nat) (hk : 2000 ≤ k) : refill_CheckClash.f k d a b = some (checkClashOf d a b) := by
  unfold refill_CheckClash.f checkClashOf
  rw [event_eq d (-1) [a, b] (by simp) k (by omega)]
  by_cases hv : vd d = true
  · simp only [if_pos hv, Option.bind_some]
    unfold inds
    simp only [List.all_cons, List.all_nil, Bool.and_true, Bool.and_eq_true, decide_eq_true_eq]
    by_cases h1 : (-1 ≤ a ∧ a < d.length) ∧ -1 ≤ b ∧ b < d.length
    · rw [if_pos h1, if_pos rfl]
      by_cases h2 : a ≥ b
      · rw [if_pos h2, if_neg (by omega)]
      · rw [if_neg h2, if_pos (by omega), at_eq d a h1.1.2, at_eq d b h1.2.2]
        simp only [Option.bind_some]
        rw [cannot_eqk hv h1.1.1 (by omega) h1.2.2 k (by omega)]
        unfold pairC
        by_cases h3 : isK d a = true
        · by_cases h4 : isK d b = true
          · simp only [h3, h4, Bool.true_and, if_true, Option.bind_some]
            split <;> rfl
          · simp [h3, h4]
        · simp [h3]
    · rw [if_neg h1, if_neg (by decide), if_neg (by omega)]
  · simp [hv]
def checkProofOf (d : List S51) (i : Int) (lat : Bool) (bound by_ : Int) : Int := if vd d = true then (if 0 ≤ i ∧ i < d.length ∧ -1 ≤ by_ ∧ by_ < d.length then (if (isK d by_ && prv d i lat bound by_) = true then 0 else 32) else 1) else 40
theorem tells_eqk {d : List S51} (hv : vd d = true) {a i : Int} (ha : -1 ≤ a) (ha' : a < d.length) (hi : -1 ≤ i) (hi' : i < d.length) (k : Nat) (hk : 33 ≤ k) : refill_tells.f k d a (atOf d a).f0 (atOf d a).f1 i = some (tlo d a i, thi d a i) := tells_eq hv ha ha' hi hi' k hk
theorem event_1 (d : List S51) (least i : Int) (k : Nat) (hk : 40 ≤ k) : refill_event.f k d least [i] = some (if vd d = true then (if least ≤ i ∧ i < d.length then 0 else 1) else 40) := by
  rw [event_eq d least [i] (by simp) k hk]
  unfold inds
  simp
theorem pCheckProof_eq (d : List S51) (i : Int) (lat : Bool) (bound by_ : Int) (k : Nat) (hk : 2000 ≤ k) : refill_CheckProof.f k d i lat bound by_ = some (checkProofOf d i lat bound by_) := by
  unfold refill_CheckProof.f checkProofOf
  rw [event_1 d 0 i k (by omega), event_1 d (-1) by_ k (by omega)]
  by_cases hv : vd d = true
  · simp only [if_pos hv, Option.bind_some]
    by_cases h1 : 0 ≤ i ∧ i < d.length
    · rw [if_pos h1, if_pos rfl]
      by_cases h2 : -1 ≤ by_ ∧ by_ < d.length
      · rw [if_pos h2, if_pos rfl, if_pos ⟨h1.1, h1.2, h2.1, h2.2⟩, at_eq d by_ h2.2]
        simp only [Option.bind_some]
        by_cases h3 : isK d by_ = true
        · rw [if_pos h3, tells_eq hv h2.1 h2.2 (by omega) h1.2 k (by omega)]
          simp only [Option.bind_some, proves_eq, h3, Bool.true_and]
          split <;> rfl
        · simp [h3]
      · rw [if_neg h2, if_neg (by decide), if_neg (by omega)]
    · rw [if_neg h1, if_neg (by decide), if_neg (by omega)]
  · simp [hv]
theorem pPossible_eq (d : List S51) (k : Nat) (hk : 2000 ≤ k) : refill_Possible.f k d = some (vd d && !(clashOf d).2.2, if vd d = true then 0 else 40) := by
  unfold refill_Possible.f
  rw [Check_eq d k (by omega)]
  by_cases hv : vd d = true
  · simp [hv, possible_eq hv]
  · simp [hv]
theorem pTime_eq (d : List S51) (i : Int) (k : Nat) (hk : 2000 ≤ k) : refill_Time.f k d i = some (if readyA d i = 0 then ((timeOf d i).1, (timeOf d i).2, 0) else (0, 0, readyA d i)) := by
  unfold refill_Time.f
  rw [ready_A d i k (by omega)]
  simp only [Option.bind_some]
  by_cases h : readyA d i = 0
  · obtain ⟨hv, hi, hc⟩ := readyA_zero h
    rw [if_pos h, if_pos h]
    unfold refill_time.f
    rw [if_pos ⟨hv, hi.1, hi.2⟩]
    rfl
  · rw [if_neg h, if_neg h]
theorem between_eq {d : List S51} (hv : vd d = true) {a b : Int} (ha : -1 ≤ a) (hab : a < b) (hb : b < d.length) (k : Nat) (hk : 100 ≤ k) : refill_between.f k d a b = some (betweenOf d a b) := by
  unfold refill_between.f betweenOf timeB
  have t1 : refill_time.f d b = some (timeOf d b) := by unfold refill_time.f; rw [if_pos ⟨hv, by omega, hb⟩]
  have tb := time_bound hv (i := b) (by omega) hb
  rw [behind_eq hv ha (by omega) hb k (by omega), t1]
  simp only [Option.bind_some]
  by_cases h : a ≥ 0
  · have t2 : refill_time.f d a = some (timeOf d a) := by unfold refill_time.f; rw [if_pos ⟨hv, by omega, by omega⟩]
    have ta := time_bound hv (i := a) h (by omega)
    rw [if_pos h, t2, if_pos h]
    simp only [Option.bind_some]
    congr 2 <;> congr 1 <;> (unfold wrap64; omega)
  · rw [if_neg h, if_neg h]
    simp only [Int.sub_zero]
    congr 2 <;> congr 1 <;> (unfold wrap64; omega)
theorem pBetween_eq (d : List S51) (a b : Int) (k : Nat) (hk : 2000 ≤ k) : refill_Between.f k d a b = some (if betweenErr d a b = 0 then ((betweenOf d a b).1, (betweenOf d a b).2, 0) else (0, 0, betweenErr d a b)) := by
  unfold refill_Between.f
  rw [event_eq d (-1) [a, b] (by simp) k (by omega)]
  by_cases hv : vd d = true
  · simp only [if_pos hv, Option.bind_some]
    unfold inds
    simp only [List.all_cons, List.all_nil, Bool.and_true, Bool.and_eq_true, decide_eq_true_eq]
    by_cases h1 : (-1 ≤ a ∧ a < d.length) ∧ -1 ≤ b ∧ b < d.length
    · rw [if_pos h1, if_pos rfl]
      by_cases h2 : a ≥ b
      · rw [if_pos h2, betweenErr_arg hv (by omega), if_neg (by decide)]
      · rw [if_neg h2, betweenErr_yes hv (by omega), possible_eq hv]
        simp only [Option.bind_some]
        cases hc : (clashOf d).2.2 with
        | false =>
          simp only [Bool.not_false, if_true, Bool.false_eq_true, if_false]
          rw [between_eq hv h1.1.1 (by omega) h1.2.2 k (by omega)]
          rfl
        | true => rfl
    · rw [if_neg h1, if_neg (by decide), betweenErr_arg hv (by omega), if_neg (by decide)]
  · have hE : betweenErr d a b = 40 := by unfold betweenErr; rw [if_neg hv]
    rw [if_neg hv, hE]
    rfl
end Go.Proofs.YtgiihjcpgjpkcaaDoor.Q
