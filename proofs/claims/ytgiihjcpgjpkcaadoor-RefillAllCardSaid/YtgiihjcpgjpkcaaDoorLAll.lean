/- RefillAll: the statement's own function answers true, at every day, two lists and indices; no program in sight. -/
import Derived.Test.YtgiihjcpgjpkcaaDoorHFacts
import Derived.Test.YtgiihjcpgjpkcaaDoorHRefV
import Derived.Test.YtgiihjcpgjpkcaaDoorHEqual
import Derived.Test.YtgiihjcpgjpkcaaDoorQWAll
namespace Go.Proofs.YtgiihjcpgjpkcaaDoor.Q
open Go.RowKit Go.Proofs.YtgiihjcpgjpkcaaDoorW.PrintWords Go.Proofs.YtgiihjcpgjpkcaaDoorW.PrintLast Go.Proofs.YtgiihjcpgjpkcaaDoorW.PrintMore
set_option linter.unusedVariables false
set_option linter.unusedSimpArgs false

theorem rd_endsTo {lat : Bool} {d : List S51} {n j : Nat} (h : j < n) : rd (endsTo lat d n) (j : Int) = endOf lat (timeOf d (j : Int)) := by
  unfold rd endsTo
  rw [Int.toNat_natCast, List.getD_eq_getElem?_getD, List.getElem?_map, List.getElem?_range h]
  rfl
theorem minutesOf_succ (n : Nat) (m : Nat → Int) : minutesOf (n + 1) m = minutesOf n m ++ [m (n + 1)] := by simp [minutesOf, List.range_succ]
theorem checkClash_no {d : List S51} (hv : vd d = true) (hc : (clashOf d).2.2 = false) (a b : Int) : checkClashOf d a b ≠ 0 := by
  unfold checkClashOf
  rw [if_pos hv]
  by_cases hr : -1 ≤ a ∧ a < d.length ∧ 0 ≤ b ∧ b < d.length ∧ a < b
  · rw [if_pos hr, ((clashOf_spec d).none_ hc).2 a b hr.1 hr.2.2.2.2 hr.2.2.2.1]
    decide
  · rw [if_neg hr]; decide
theorem checkClash_yes {d : List S51} (hv : vd d = true) (hc : (clashOf d).2.2 = true) : checkClashOf d (clashOf d).1 (clashOf d).2.1 = 0 := by
  obtain ⟨q1, q2, q3, q4, _⟩ := (clashOf_spec d).some_ hc
  unfold checkClashOf
  rw [if_pos hv, if_pos ⟨q1, by omega, by omega, q3, q2⟩, if_pos q4]
theorem all_l1 {d : List S51} {l m : List Int} (hl : checkOf d l = 0) (hm : checkOf d m = 0) : ∀ (r k j : Nat), l.length = j + r → r + 10 ≤ k →
    waterhourlaw04_RefillAll.l1 k d l m (minutesOf j fun p => min (prevAt l p) (prevAt m p)) (minutesOf j fun p => max (prevAt l p) (prevAt m p)) l.length j = some true
  | 0, k, j, hj, hk => by
    obtain ⟨k, rfl⟩ : ∃ m, k = m + 1 := ⟨k - 1, by omega⟩
    obtain ⟨hv, hll, _⟩ := check_zero.1 hl
    have h1 := ((check_chain hv).1 hl).2
    have h2 := ((check_chain hv).1 hm).2
    have e1 := check_minutesOf hv (h1.min h2)
    have e2 := check_minutesOf hv (h1.max h2)
    obtain rfl : l.length = j := by omega
    rw [← hll] at e1 e2
    simp only [waterhourlaw04_RefillAll.l1, refill_CheckTimes.f]
    rw [if_neg (by omega), e1, e2]
    rfl
  | r + 1, k, j, hj, hk => by
    obtain ⟨k, rfl⟩ : ∃ m, k = m + 1 := ⟨k - 1, by omega⟩
    have ih := all_l1 hl hm r k (j + 1) (by omega) (by omega)
    obtain ⟨hv, hll, _⟩ := check_zero.1 hl
    have hml := (check_zero.1 hm).2.1
    have h32 := (vd_iff.1 hv).2.1
    rw [minutesOf_succ, minutesOf_succ, prev_succ, prev_succ] at ih
    simp only [waterhourlaw04_RefillAll.l1, mn_min, mx_max]
    rw [if_pos (by omega), if_pos (by omega), if_pos (by omega), if_pos (by omega), Option.bind_some, if_pos (by rw [minutesOf_length]; simp only [List.length_cons, List.length_nil]; omega), Option.bind_some, if_pos (by rw [minutesOf_length]; simp only [List.length_cons, List.length_nil]; omega), show wrap64 ((j : Int) + 1) = ((j + 1 : Nat) : Int) from by unfold wrap64; omega]
    exact ih
theorem all_j4 {d : List S51} {l m : List Int} (hv : vd d = true) (b : Bool) (hb : b = false → checkOf d l = 0 ∧ checkOf d m = 0) (hb' : b = true → checkOf d l = 0 → checkOf d m ≠ 0) (k : Nat) (hk : 200 ≤ k) :
    waterhourlaw04_RefillAll.j4 (k + 1) d l m (checkOf d l == 0) (checkOf d m == 0) b = some true := by
  simp only [waterhourlaw04_RefillAll.j4]
  cases b with
  | true =>
    rw [if_pos rfl]
    by_cases h : checkOf d l = 0
    · have hn := hb' rfl h
      rw [show (checkOf d l == 0) = true from beq_iff_eq.2 h, show (checkOf d m == 0) = false from beq_eq_false_iff_ne.2 hn]
      rfl
    · rw [show (checkOf d l == 0) = false from beq_eq_false_iff_ne.2 h]
      rfl
  | false =>
    obtain ⟨h1, h2⟩ := hb rfl
    have hll := (check_zero.1 h1).2.1
    have h32 := (vd_iff.1 hv).2.1
    rw [if_neg (by decide)]
    exact all_l1 h1 h2 l.length k 0 (by omega) (by omega)
theorem all_l0 {d : List S51} {l m : List Int} (hv : vd d = true) : ∀ (r k j : Nat), d.length = j + r → r + 300 ≤ k →
    waterhourlaw04_RefillAll.l0 k d l m (endsTo false d d.length) (endsTo true d d.length) (checkOf d l == 0) (checkOf d m == 0) d.length j = some true
  | 0, k, j, hj, hk => by
    obtain ⟨k, rfl⟩ : ∃ m, k = m + 1 := ⟨k - 1, by omega⟩
    obtain ⟨k, rfl⟩ : ∃ m, k = m + 1 := ⟨k - 1, by omega⟩
    simp only [waterhourlaw04_RefillAll.l0]
    rw [if_neg (by omega)]
    by_cases h1 : checkOf d l = 0
    · rw [if_pos (beq_iff_eq.2 h1)]
      by_cases h2 : checkOf d m = 0
      · have e1 := (check_zero.1 h1).2.1
        have e2 := (check_zero.1 h2).2.1
        rw [if_pos (beq_iff_eq.2 h2), show ((m.length : Int) != (l.length : Int)) = false from bne_eq_false_iff_eq.2 (by omega)]
        exact all_j4 hv false (fun _ => ⟨h1, h2⟩) (fun h => by cases h) k (by omega)
      · rw [if_neg (fun h => h2 (beq_iff_eq.1 h))]
        exact all_j4 hv true (fun h => by cases h) (fun _ _ => h2) k (by omega)
    · rw [if_neg (fun h => h1 (beq_iff_eq.1 h))]
      exact all_j4 hv true (fun h => by cases h) (fun _ h => absurd h h1) k (by omega)
  | r + 1, k, j, hj, hk => by
    obtain ⟨k, rfl⟩ : ∃ m, k = m + 1 := ⟨k - 1, by omega⟩
    have ih := all_l0 (l := l) (m := m) hv r k (j + 1) (by omega) (by omega)
    have h32 := (vd_iff.1 hv).2.1
    have hp : j < d.length := by omega
    simp only [waterhourlaw04_RefillAll.l0]
    rw [if_pos (by omega), show wrap64 ((j : Int) + 1) = ((j + 1 : Nat) : Int) from by unfold wrap64; omega]
    by_cases h1 : checkOf d l = 0
    · have e1 := (check_zero.1 h1).2.1
      have hw := check_within h1 (i := (j : Int)) (by omega) (by omega)
      have r1 : rd (endsTo false d d.length) (j : Int) = (timeOf d (j : Int)).1 := rd_endsTo hp
      have r2 : rd (endsTo true d d.length) (j : Int) = (timeOf d (j : Int)).2 := rd_endsTo hp
      rw [if_pos (beq_iff_eq.2 h1), if_pos (by omega), if_pos (by omega), if_pos (by omega), if_pos (by rw [endsTo_length]; omega), r1, if_neg (by omega), if_pos (by rw [endsTo_length]; omega), r2, if_neg (by omega)]
      exact ih
    · rw [if_neg (fun h => h1 (beq_iff_eq.1 h))]
      exact ih
theorem all_j1_no {d : List S51} (hv : vd d = true) (hc : (clashOf d).2.2 = false) (l m : List Int) (a b x y : Int) (k : Nat) (hk : 2001 ≤ k) :
    waterhourlaw04_RefillAll.j1 (k + 1) d l m a b true x y (endsTo false d d.length) 0 (endsTo true d d.length) 0 false = some true := by
  obtain ⟨k, rfl⟩ : ∃ m, k = m + 1 := ⟨k - 1, by omega⟩
  have h32 := (vd_iff.1 hv).2.1
  simp only [waterhourlaw04_RefillAll.j1]
  rw [if_neg (by decide)]
  simp only [refill_CheckTimes.f]
  rw [Option.bind_some, Option.bind_some, if_pos trivial, if_pos trivial, if_pos trivial, Option.bind_some, if_pos (check_ends hv hc false), Option.bind_some, if_pos (check_ends hv hc true), if_pos (by rw [endsTo_length]), if_pos (by rw [endsTo_length]), pCheckClash_eq d a b (k + 1) (by omega), Option.bind_some, show (checkClashOf d a b == 0) = false from beq_eq_false_iff_ne.2 (checkClash_no hv hc a b)]
  simp only [waterhourlaw04_RefillAll.j2]
  rw [if_neg (by decide)]
  exact all_l0 hv d.length k 0 (by omega) (by omega)
theorem all_j0 {d : List S51} (hv : vd d = true) (l m : List Int) (a b : Int) (c : Bool) (k : Nat) (hk : 2002 ≤ k) : waterhourlaw04_RefillAll.j0 (k + 1) d l m a b c = some true := by
  obtain ⟨k, rfl⟩ : ∃ m, k = m + 1 := ⟨k - 1, by omega⟩
  simp only [waterhourlaw04_RefillAll.j0]
  cases c with
  | true => rfl
  | false =>
    rw [if_neg (by decide), pPossible_eq d (k + 1) (by omega), pClash_eq d (k + 1) (by omega), hv, if_pos rfl, if_pos rfl]
    simp only [refill_Earliest.f, refill_Latest.f]
    cases hc : (clashOf d).2.2 with
    | false =>
      rw [ready_of hv hc, if_pos rfl, if_pos rfl, Option.bind_some, Option.bind_some, Option.bind_some, Option.bind_some, if_pos rfl, if_pos rfl]
      exact all_j1_no hv hc l m a b _ _ k (by omega)
    | true =>
      have hr : readyE d = 31 := by unfold readyE; rw [if_pos hv, hc]; rfl
      have n1 : checkOf d l ≠ 0 := fun h => by have := check_noClash h; rw [hc] at this; cases this
      have n2 : checkOf d m ≠ 0 := fun h => by have := check_noClash h; rw [hc] at this; cases this
      rw [hr, if_neg (by decide), if_neg (by decide), Option.bind_some, Option.bind_some, Option.bind_some, Option.bind_some, if_pos rfl, if_pos rfl]
      simp only [waterhourlaw04_RefillAll.j1]
      rw [if_neg (by decide)]
      simp only [refill_CheckTimes.f]
      rw [Option.bind_some, Option.bind_some, if_neg (by decide), if_pos trivial, if_pos trivial, pCheckClash_eq d _ _ k (by omega), Option.bind_some, if_pos (checkClash_yes hv hc), if_neg n1, show (checkOf d m == 0) = false from beq_eq_false_iff_ne.2 n2]
      rfl
theorem law_All (d : List S51) (l m : List Int) (a b : Int) : waterhourlaw04_RefillAll.f 3000 d l m a b = some true := by
  unfold waterhourlaw04_RefillAll.f law_sane.f
  rw [Valid_eq d 3000 (by omega), few_two d l m 3000 (by omega), Option.bind_some, if_pos rfl, Option.bind_some]
  by_cases hv : vd d = true
  · rw [if_pos hv, Option.bind_some]
    exact all_j0 hv l m a b _ 2999 (by omega)
  · rw [if_neg hv]
    simp only [waterhourlaw04_RefillAll.j0, if_true]
end Go.Proofs.YtgiihjcpgjpkcaaDoor.Q
