/- What the reference says of the minutes of an event; no program in sight. -/
import Derived.Test.YtgiihjcpgjpkcaaDoorHRefA
import Derived.Test.YtgiihjcpgjpkcaaDoorQDb
namespace Go.Proofs.YtgiihjcpgjpkcaaDoor.Q
open Go.RowKit Go.Proofs.YtgiihjcpgjpkcaaDoorW.PrintWords Go.Proofs.YtgiihjcpgjpkcaaDoorW.PrintLast Go.Proofs.YtgiihjcpgjpkcaaDoorW.PrintMore
set_option linter.unusedVariables false
set_option linter.unusedSimpArgs false

theorem rtime_l0 {d : List S51} (hv : vd d = true) {i : Int} (hi : 0 ≤ i) (hi' : i < d.length) : ∀ (m k n : Nat) (p : Int × Int), d.length = n + m → m + 60 ≤ k → TimeSpec d i n p → waterhourref04_time.l0 k d i n p.1 p.2 = some (timeOf d i)
  | 0, k, n, p, hn, hk, hp => by
    obtain ⟨k, rfl⟩ : ∃ m, k = m + 1 := ⟨k - 1, by omega⟩
    simp only [waterhourref04_time.l0]
    obtain rfl : d.length = n := by omega
    rw [if_neg (by omega), hp.unique (timeOf_spec hv hi hi')]
  | m + 1, k, n, p, hn, hk, hp => by
    obtain ⟨k, rfl⟩ : ∃ m, k = m + 1 := ⟨k - 1, by omega⟩
    have hl32 := (vd_iff.1 hv).2.1
    simp only [waterhourref04_time.l0]
    rw [if_pos (by omega), Tells_eq hv (by omega) (by omega) (by omega) hi' k (by omega), show wrap64 ((n : Int) + 1) = ((n + 1 : Nat) : Int) from by unfold wrap64; omega]
    simp only [Option.bind_some]
    by_cases hK : isK d (n : Int) = true
    · rw [if_pos hK, if_pos rfl]
      exact rtime_l0 hv hi hi' m k (n + 1) _ (by omega) (by omega) (by rw [show ((n + 1 : Nat) : Int) = (n : Int) + 1 from by omega]; exact hp.step (by omega) hK)
    · rw [if_neg hK, if_neg (by decide)]
      exact rtime_l0 hv hi hi' m k (n + 1) p (by omega) (by omega) (by rw [show ((n + 1 : Nat) : Int) = (n : Int) + 1 from by omega]; exact hp.skip (Bool.eq_false_iff.2 hK))
theorem rtime_eq {d : List S51} (hv : vd d = true) {i : Int} (hi : 0 ≤ i) (hi' : i < d.length) (k : Nat) (hk : 100 ≤ k) : waterhourref04_time.f k d i = some (timeOf d i) := by
  have hl32 := (vd_iff.1 hv).2.1
  unfold waterhourref04_time.f
  rw [Tells_eq hv (by omega) (by omega) (by omega) hi' k (by omega)]
  simp only [isK_beg, if_true, Option.bind_some, (tl_beg d hi).1, (tl_beg d hi).2]
  exact rtime_l0 hv hi hi' d.length k 0 (SL d i, SH d i) (by omega) (by omega) (TimeSpec.beg hi)
/-- The error of a question about some events, as the reference finds it. -/
theorem rfirst_l0 {d : List S51} (l : List Int) (hl : l.length ≤ 30) (c : Bool) : ∀ (m k n : Nat), l.length = n + m → m < k → waterhourref04_first.l0 k d l c n = some (if inds d 0 (l.drop n) = true then (if c = true then 0 else 31) else 1) := by
  intro m
  induction m with
  | zero =>
    intro k n hn hk
    obtain ⟨k, rfl⟩ : ∃ m, k = m + 1 := ⟨k - 1, by omega⟩
    simp only [waterhourref04_first.l0]
    rw [if_neg (by omega), List.drop_of_length_le (by omega)]
    cases c <;> rfl
  | succ m ih =>
    intro k n hn hk
    obtain ⟨k, rfl⟩ : ∃ m, k = m + 1 := ⟨k - 1, by omega⟩
    simp only [waterhourref04_first.l0]
    have hlt : n < l.length := by omega
    have e : l.drop n = rd l (n : Int) :: l.drop (n + 1) := by
      rw [List.drop_eq_getElem_cons hlt]
      congr 1
      unfold rd
      rw [Int.toNat_natCast, List.getD_eq_getElem?_getD, List.getElem?_eq_getElem hlt]
      rfl
    rw [if_pos (by omega), if_pos (by omega), Event_eq, e]
    simp only [Option.bind_some]
    unfold inds
    rw [List.all_cons]
    by_cases h : 0 ≤ rd l (n : Int) ∧ rd l (n : Int) < d.length
    · rw [if_pos (decide_eq_true h), decide_eq_true h.1, decide_eq_true h.2, Bool.true_and, Bool.true_and]
      rw [show wrap64 ((n : Int) + 1) = ((n + 1 : Nat) : Int) from by unfold wrap64; omega]
      exact ih k (n + 1) (by omega) (by omega)
    · rw [if_neg (by simpa using h), if_neg]
      simp only [Bool.and_eq_true, decide_eq_true_eq, not_and]
      intro h1
      exact absurd h1 h
theorem rfirst_eq (d : List S51) (l : List Int) (hl : l.length ≤ 30) (k : Nat) (hk : 2000 ≤ k) : waterhourref04_first.f k d l = some (if vd d = true then (if inds d 0 l = true then (if (clashOf d).2.2 = true then 31 else 0) else 1) else 40) := by
  unfold waterhourref04_first.f
  rw [rPossible_eq d k hk]
  by_cases hv : vd d = true
  · simp only [hv, Bool.true_and, Option.bind_some, if_true]
    have := rfirst_l0 (d := d) l hl (!(clashOf d).2.2) l.length k 0 (by omega) (by omega)
    rw [show ((0 : Nat) : Int) = 0 from rfl] at this
    rw [this, List.drop_zero]
    cases (clashOf d).2.2 <;> rfl
  · simp [hv]
theorem rfirst_A (d : List S51) (i : Int) (k : Nat) (hk : 2000 ≤ k) : waterhourref04_first.f k d [i] = some (readyA d i) := by
  rw [rfirst_eq d [i] (by simp) k hk]
  unfold readyA inds
  simp
theorem rfirst_E (d : List S51) (k : Nat) (hk : 2000 ≤ k) : waterhourref04_first.f k d [] = some (readyE d) := by
  rw [rfirst_eq d [] (by simp) k hk]
  unfold readyE inds
  simp
end Go.Proofs.YtgiihjcpgjpkcaaDoor.Q
