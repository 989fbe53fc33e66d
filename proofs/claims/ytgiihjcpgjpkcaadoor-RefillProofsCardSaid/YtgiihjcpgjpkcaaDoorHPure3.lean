/- What the questions about clashes and proofs come to, in the program and in the reference alike; no program in sight. -/
import Derived.Test.YtgiihjcpgjpkcaaDoorHPure2
import Derived.Test.YtgiihjcpgjpkcaaDoorHProof
import Derived.Test.YtgiihjcpgjpkcaaDoorHEnds
import Derived.Test.YtgiihjcpgjpkcaaDoorQG
import Derived.Test.YtgiihjcpgjpkcaaDoorQI
import Derived.Test.YtgiihjcpgjpkcaaDoorQK
import Derived.Test.YtgiihjcpgjpkcaaDoorQL
namespace Go.Proofs.YtgiihjcpgjpkcaaDoor.Q
open Go.RowKit Go.Proofs.YtgiihjcpgjpkcaaDoorW.PrintWords Go.Proofs.YtgiihjcpgjpkcaaDoorW.PrintLast Go.Proofs.YtgiihjcpgjpkcaaDoorW.PrintMore
set_option linter.unusedVariables false
set_option linter.unusedSimpArgs false

theorem few_nil (d : List S51) (k : Nat) (hk : 2 ≤ k) : waterhourlaw04_few.f k d [] = some (decide ((d.length : Int) ≤ 100)) := by
  obtain ⟨k, rfl⟩ : ∃ m, k = m + 1 := ⟨k - 1, by omega⟩
  unfold waterhourlaw04_few.f
  simp [waterhourlaw04_few.l0]
theorem few_one (d : List S51) (l : List Int) (k : Nat) (hk : 3 ≤ k) : waterhourlaw04_few.f k d [l] = some (decide ((l.length : Int) ≤ 100) && decide ((d.length : Int) ≤ 100)) := by
  obtain ⟨k, rfl⟩ : ∃ m, k = m + 2 := ⟨k - 2, by omega⟩
  unfold waterhourlaw04_few.f
  have e : rd_L5 [l] 0 = l := rfl
  simp only [waterhourlaw04_few.l0, List.length_cons, List.length_nil, Nat.reduceAdd, e]
  rw [if_pos (by omega), if_pos (by omega), if_pos (by omega), show wrap64 (0 + 1) = 1 from by unfold wrap64; omega]
  by_cases h : (l.length : Int) > 100
  · rw [if_pos h, decide_eq_false (by omega), Bool.false_and]
  · rw [if_neg h, if_neg (by omega), decide_eq_true (show (l.length : Int) ≤ 100 by omega), Bool.true_and]
theorem few_two (d : List S51) (l m : List Int) (k : Nat) (hk : 4 ≤ k) : waterhourlaw04_few.f k d [l, m] = some (decide ((l.length : Int) ≤ 100) && decide ((m.length : Int) ≤ 100) && decide ((d.length : Int) ≤ 100)) := by
  obtain ⟨k, rfl⟩ : ∃ m, k = m + 3 := ⟨k - 3, by omega⟩
  unfold waterhourlaw04_few.f
  have e : rd_L5 [l, m] 0 = l := rfl
  have e1 : rd_L5 [l, m] 1 = m := rfl
  simp only [waterhourlaw04_few.l0, List.length_cons, List.length_nil, Nat.reduceAdd, e]
  rw [if_pos (by omega), if_pos (by omega), if_pos (by omega), show wrap64 (0 + 1) = 1 from by unfold wrap64; omega]
  by_cases h : (l.length : Int) > 100
  · rw [if_pos h, decide_eq_false (show ¬ (l.length : Int) ≤ 100 by omega), Bool.false_and, Bool.false_and]
  · rw [if_neg h, decide_eq_true (show (l.length : Int) ≤ 100 by omega), Bool.true_and]
    simp only [e1]
    rw [if_pos (by omega), if_pos (by omega), if_pos (by omega), show wrap64 (1 + 1) = 2 from by unfold wrap64; omega]
    by_cases h2 : (m.length : Int) > 100
    · rw [if_pos h2, decide_eq_false (show ¬ (m.length : Int) ≤ 100 by omega), Bool.false_and]
    · rw [if_neg h2, if_neg (by omega), decide_eq_true (show (m.length : Int) ≤ 100 by omega), Bool.true_and]

theorem pClash_eq (d : List S51) (k : Nat) (hk : 2000 ≤ k) : refill_Clash.f k d = some (if vd d = true then ((clashOf d).1, (clashOf d).2.1, (clashOf d).2.2, 0) else (0, 0, false, 40)) := by
  unfold refill_Clash.f
  rw [Check_eq d k (by omega)]
  by_cases hv : vd d = true
  · simp [hv, refill_clash.f]
  · simp [hv]
theorem cannot_eqk {d : List S51} (hv : vd d = true) {a b : Int} (ha : -1 ≤ a) (hab : a ≤ b) (hb : b < d.length) (k : Nat) (hk : 33 ≤ k) : refill_cannot.f k d a (atOf d a).f0 (atOf d a).f1 b (atOf d b).f0 (atOf d b).f1 = some (cannotB d a b) :=
  at_rounds (fun k => refill_cannot.mono _ _ _ _ _ _ _ k) hk (cannot_eq hv ha hab hb)
def checkClashOf (d : List S51) (a b : Int) : Int := if vd d = true then (if -1 ≤ a ∧ a < d.length ∧ 0 ≤ b ∧ b < d.length ∧ a < b then (if pairC d a b = true then 0 else 32) else 1) else 40
theorem pCheckClash_eq (d : List S51) (a b : Int) (k : Nat) (hk : 2000 ≤ k) : refill_CheckClash.f k d a b = some (checkClashOf d a b) := by
  unfold refill_CheckClash.f checkClashOf
  rw [event_eq d (-1) [a, b] (by simp) k (by omega)]
  by_cases hv : vd d = true
  · simp only [if_pos hv, Option.bind_some]
    unfold inds
    simp only [List.all_cons, List.all_nil, Bool.and_true, Bool.and_eq_true, decide_eq_true_eq]
    by_cases h1 : (-1 ≤ a ∧ a < d.length) ∧ -1 ≤ b ∧ b < d.length
    · rw [if_pos h1, if_pos rfl]
      by_cases h2 : a ≥ b
      · rw [if_pos h2, if_neg (by omega)]
      · rw [if_neg h2, if_pos (by omega), at_eq d a h1.1.2, at_eq d b h1.2.2]
        simp only [Option.bind_some]
        rw [cannot_eqk hv h1.1.1 (by omega) h1.2.2 k (by omega)]
        unfold pairC
        by_cases h3 : isK d a = true
        · by_cases h4 : isK d b = true
          · simp only [h3, h4, Bool.true_and, if_true, Option.bind_some]
            split <;> rfl
          · simp [h3, h4]
        · simp [h3]
    · rw [if_neg h1, if_neg (by decide), if_neg (by omega)]
  · simp [hv]
theorem rCheckClash_eq (d : List S51) (a b : Int) (k : Nat) (hk : 2000 ≤ k) : waterhourref04_CheckClash.f k d a b = some (checkClashOf d a b) := by
  obtain ⟨k, rfl⟩ : ∃ m, k = m + 1 := ⟨k - 1, by omega⟩
  unfold waterhourref04_CheckClash.f checkClashOf
  rw [Valid_eq d (k + 1) (by omega)]
  by_cases hv : vd d = true
  · simp only [if_pos hv, Option.bind_some, Event_eq, waterhourref04_CheckClash.j0, decide_eq_true_eq]
    by_cases h1 : -1 ≤ a ∧ a < d.length
    · rw [if_pos h1]
      by_cases h2 : 0 ≤ b ∧ b < d.length
      · rw [if_pos h2]
        by_cases h3 : a ≥ b
        · rw [if_pos h3, if_neg (by omega)]
        · rw [if_neg h3, if_pos (by omega), rcannot_eq hv h1.1 (by omega) h2.2 k (by omega)]
          simp only [Option.bind_some]
          split <;> rfl
      · rw [if_neg h2, if_pos trivial, if_neg (by omega)]
    · rw [if_neg h1, if_pos trivial, if_neg (by omega)]
  · simp [hv]

/-! ### proofs -/
def checkProofOf (d : List S51) (i : Int) (lat : Bool) (bound by_ : Int) : Int := if vd d = true then (if 0 ≤ i ∧ i < d.length ∧ -1 ≤ by_ ∧ by_ < d.length then (if (isK d by_ && prv d i lat bound by_) = true then 0 else 32) else 1) else 40
theorem tells_eqk {d : List S51} (hv : vd d = true) {a i : Int} (ha : -1 ≤ a) (ha' : a < d.length) (hi : -1 ≤ i) (hi' : i < d.length) (k : Nat) (hk : 33 ≤ k) : refill_tells.f k d a (atOf d a).f0 (atOf d a).f1 i = some (tlo d a i, thi d a i) := tells_eq hv ha ha' hi hi' k hk
theorem event_1 (d : List S51) (least i : Int) (k : Nat) (hk : 40 ≤ k) : refill_event.f k d least [i] = some (if vd d = true then (if least ≤ i ∧ i < d.length then 0 else 1) else 40) := by
  rw [event_eq d least [i] (by simp) k hk]
  unfold inds
  simp
theorem pCheckProof_eq (d : List S51) (i : Int) (lat : Bool) (bound by_ : Int) (k : Nat) (hk : 2000 ≤ k) : refill_CheckProof.f k d i lat bound by_ = some (checkProofOf d i lat bound by_) := by
  unfold refill_CheckProof.f checkProofOf
  rw [event_1 d 0 i k (by omega), event_1 d (-1) by_ k (by omega)]
  by_cases hv : vd d = true
  · simp only [if_pos hv, Option.bind_some]
    by_cases h1 : 0 ≤ i ∧ i < d.length
    · rw [if_pos h1, if_pos rfl]
      by_cases h2 : -1 ≤ by_ ∧ by_ < d.length
      · rw [if_pos h2, if_pos rfl, if_pos ⟨h1.1, h1.2, h2.1, h2.2⟩, at_eq d by_ h2.2]
        simp only [Option.bind_some]
        by_cases h3 : isK d by_ = true
        · rw [if_pos h3, tells_eq hv h2.1 h2.2 (by omega) h1.2 k (by omega)]
          simp only [Option.bind_some, proves_eq, h3, Bool.true_and]
          split <;> rfl
        · simp [h3]
      · rw [if_neg h2, if_neg (by decide), if_neg (by omega)]
    · rw [if_neg h1, if_neg (by decide), if_neg (by omega)]
  · simp [hv]
theorem rproves_eq {d : List S51} (hv : vd d = true) {i by_ : Int} (hi : 0 ≤ i) (hi' : i < d.length) (hb : -1 ≤ by_) (hb' : by_ < d.length) (lat : Bool) (bound : Int) (k : Nat) (hk : 40 ≤ k) :
    waterhourref04_proves.f k d i lat bound by_ = some (isK d by_ && prv d i lat bound by_) := by
  unfold waterhourref04_proves.f prv
  rw [Tells_eq hv hb hb' (by omega) hi' k hk]
  simp only [Option.bind_some]
  by_cases h3 : isK d by_ = true
  · simp only [h3, if_true, Bool.true_and]
    cases lat
    · simp
    · simp only [if_true]
      by_cases h4 : thi d by_ i ≤ bound
      · rw [if_pos h4, decide_eq_true h4]
      · rw [if_neg h4, decide_eq_false h4]
  · simp [h3]
theorem rCheckProof_eq (d : List S51) (i : Int) (lat : Bool) (bound by_ : Int) (k : Nat) (hk : 2000 ≤ k) : waterhourref04_CheckProof.f k d i lat bound by_ = some (checkProofOf d i lat bound by_) := by
  obtain ⟨k, rfl⟩ : ∃ m, k = m + 1 := ⟨k - 1, by omega⟩
  unfold waterhourref04_CheckProof.f checkProofOf
  rw [Valid_eq d (k + 1) (by omega)]
  by_cases hv : vd d = true
  · simp only [if_pos hv, Option.bind_some, Event_eq, waterhourref04_CheckProof.j0, decide_eq_true_eq]
    by_cases h1 : 0 ≤ i ∧ i < d.length
    · rw [if_pos h1]
      by_cases h2 : -1 ≤ by_ ∧ by_ < d.length
      · rw [if_neg (by simpa using h2), if_pos ⟨h1.1, h1.2, h2.1, h2.2⟩, rproves_eq hv h1.1 h1.2 h2.1 h2.2 lat bound k (by omega)]
        simp only [Option.bind_some]
        split <;> rfl
      · rw [if_pos (by rw [Bool.not_eq_true']; exact decide_eq_false h2), if_neg (by omega)]
    · rw [if_neg h1, if_pos trivial, if_neg (by omega)]
  · simp [hv]

/-! ### the minutes of an event: what is told of them at most and at least -/
theorem mx_max (a b : Int) : mx a b = max a b := by unfold mx; split <;> omega
theorem mn_min (a b : Int) : mn a b = min a b := by unfold mn; split <;> omega
theorem isK_beg (d : List S51) : isK d (-1) = true := rfl
theorem tl_beg (d : List S51) {i : Int} (hi : 0 ≤ i) : tlo d (-1) i = SL d i ∧ thi d (-1) i = SH d i := by
  have e1 : SL d (-1) = 0 := by unfold SL; simp [sLo]
  have e2 : SH d (-1) = 0 := by unfold SH; simp [sHi]
  unfold tlo thi
  rw [if_pos (by omega), if_pos (by omega), e1, e2]
  simp [atOf]
structure TimeSpec (d : List S51) (i : Int) (n : Int) (p : Int × Int) : Prop where
  lo : ∀ j : Int, -1 ≤ j → j < n → isK d j = true → tlo d j i ≤ p.1
  lo_ : ∃ j : Int, -1 ≤ j ∧ j < n ∧ isK d j = true ∧ tlo d j i = p.1
  hi : ∀ j : Int, -1 ≤ j → j < n → isK d j = true → p.2 ≤ thi d j i
  hi_ : ∃ j : Int, -1 ≤ j ∧ j < n ∧ isK d j = true ∧ thi d j i = p.2
theorem TimeSpec.unique {d : List S51} {i n : Int} {p q : Int × Int} (h : TimeSpec d i n p) (g : TimeSpec d i n q) : p = q := by
  obtain ⟨j1, a1, a2, a3, a4⟩ := h.lo_
  obtain ⟨j2, b1, b2, b3, b4⟩ := g.lo_
  obtain ⟨j3, c1, c2, c3, c4⟩ := h.hi_
  obtain ⟨j4, d1, d2, d3, d4⟩ := g.hi_
  have := g.lo j1 a1 a2 a3
  have := h.lo j2 b1 b2 b3
  have := g.hi j3 c1 c2 c3
  have := h.hi j4 d1 d2 d3
  exact Prod.ext (by omega) (by omega)
theorem TimeSpec.beg {d : List S51} {i : Int} (hi : 0 ≤ i) : TimeSpec d i 0 (SL d i, SH d i) := by
  have ht := tl_beg d hi
  refine ⟨fun j h1 h2 _ => ?_, ⟨-1, by omega, by omega, rfl, ht.1⟩, fun j h1 h2 _ => ?_, ⟨-1, by omega, by omega, rfl, ht.2⟩⟩
  · obtain rfl : j = -1 := by omega
    rw [ht.1]; simp only; omega
  · obtain rfl : j = -1 := by omega
    rw [ht.2]; simp only; omega
theorem TimeSpec.step {d : List S51} {i n : Int} {p : Int × Int} (h : TimeSpec d i n p) (hn : 0 ≤ n) (hk : isK d n = true) : TimeSpec d i (n + 1) (mx p.1 (tlo d n i), mn p.2 (thi d n i)) := by
  rw [mx_max, mn_min]
  refine ⟨fun j h1 h2 h3 => ?_, ?_, fun j h1 h2 h3 => ?_, ?_⟩
  · rcases Int.lt_or_le j n with q | q
    · have := h.lo j h1 q h3; simp only; omega
    · obtain rfl : j = n := by omega
      simp only; omega
  · obtain ⟨j, a1, a2, a3, a4⟩ := h.lo_
    by_cases q : tlo d n i ≤ p.1
    · exact ⟨j, a1, by omega, a3, by simp only; omega⟩
    · exact ⟨n, by omega, by omega, hk, by simp only; omega⟩
  · rcases Int.lt_or_le j n with q | q
    · have := h.hi j h1 q h3; simp only; omega
    · obtain rfl : j = n := by omega
      simp only; omega
  · obtain ⟨j, a1, a2, a3, a4⟩ := h.hi_
    by_cases q : p.2 ≤ thi d n i
    · exact ⟨j, a1, by omega, a3, by simp only; omega⟩
    · exact ⟨n, by omega, by omega, hk, by simp only; omega⟩
theorem TimeSpec.skip {d : List S51} {i n : Int} {p : Int × Int} (h : TimeSpec d i n p) (hk : isK d n = false) : TimeSpec d i (n + 1) p := by
  have key : ∀ j, j < n + 1 → isK d j = true → j < n := fun j h1 h2 => by
    rcases Int.lt_or_le j n with q | q
    · exact q
    · obtain rfl : j = n := by omega
      rw [hk] at h2; cases h2
  refine ⟨fun j h1 h2 h3 => h.lo j h1 (key j h2 h3) h3, ?_, fun j h1 h2 h3 => h.hi j h1 (key j h2 h3) h3, ?_⟩
  · obtain ⟨j, a1, a2, a3, a4⟩ := h.lo_; exact ⟨j, a1, by omega, a3, a4⟩
  · obtain ⟨j, a1, a2, a3, a4⟩ := h.hi_; exact ⟨j, a1, by omega, a3, a4⟩
theorem narAll_spec {d : List S51} (hv : vd d = true) {i : Int} (hi : 0 ≤ i) (hi' : i < d.length) : ∀ n : Nat, n ≤ d.length → TimeSpec d i n (narAll d i (upK d false (n + 1)))
  | 0, _ => by
    have hr : -1 ≤ idx d false 0 ∧ idx d false 0 < d.length ∧ isK d (idx d false 0) = true := ⟨by show (-1 : Int) ≤ -1; omega, by show (-1 : Int) < _; omega, rfl⟩
    have e : narAll d i (upK d false (0 + 1)) = (SL d i, SH d i) := by
      rw [upK_yes hr, narAll_snoc]
      have e0 : upK d false 0 = [] := rfl
      have ei : idx d false 0 = -1 := rfl
      rw [e0]
      unfold nar narAll
      simp only [ei, List.foldl_nil, (tl_beg d hi).1, (tl_beg d hi).2]
      have b := SL_bound hv i
      rw [mx_max, mn_min]
      exact Prod.ext (by simp only; omega) (by simp only; omega)
    rw [e]
    exact TimeSpec.beg hi
  | n + 1, hn => by
    have ih := narAll_spec hv hi hi' n (by omega)
    have ei : idx d false (n + 1) = (n : Int) := by show ((n + 1 : Nat) : Int) - 1 = n; omega
    by_cases hK : isK d (idx d false (n + 1)) = true
    · have hr : -1 ≤ idx d false (n + 1) ∧ idx d false (n + 1) < d.length ∧ isK d (idx d false (n + 1)) = true := ⟨by omega, by omega, hK⟩
      rw [upK_yes hr, narAll_snoc]
      unfold nar
      simp only [ei]
      rw [ei] at hK
      exact ih.step (by omega) hK
    · rw [upK_no (Bool.eq_false_iff.2 hK)]
      rw [ei] at hK
      exact ih.skip (Bool.eq_false_iff.2 hK)
theorem timeOf_spec {d : List S51} (hv : vd d = true) {i : Int} (hi : 0 ≤ i) (hi' : i < d.length) : TimeSpec d i d.length (timeOf d i) := narAll_spec hv hi hi' d.length (Nat.le_refl _)
theorem rtime_l0 {d : List S51} (hv : vd d = true) {i : Int} (hi : 0 ≤ i) (hi' : i < d.length) : ∀ (m k n : Nat) (p : Int × Int), d.length = n + m → m + 60 ≤ k → TimeSpec d i n p → waterhourref04_time.l0 k d i n p.1 p.2 = some (timeOf d i)
  | 0, k, n, p, hn, hk, hp => by
    obtain ⟨k, rfl⟩ : ∃ m, k = m + 1 := ⟨k - 1, by omega⟩
    simp only [waterhourref04_time.l0]
    obtain rfl : d.length = n := by omega
    rw [if_neg (by omega), hp.unique (timeOf_spec hv hi hi')]
  | m + 1, k, n, p, hn, hk, hp => by
    obtain ⟨k, rfl⟩ : ∃ m, k = m + 1 := ⟨k - 1, by omega⟩
    have hl32 := (vd_iff.1 hv).2.1
    simp only [waterhourref04_time.l0]
    rw [if_pos (by omega), Tells_eq hv (by omega) (by omega) (by omega) hi' k (by omega), show wrap64 ((n : Int) + 1) = ((n + 1 : Nat) : Int) from by unfold wrap64; omega]
    simp only [Option.bind_some]
    by_cases hK : isK d (n : Int) = true
    · rw [if_pos hK, if_pos rfl]
      exact rtime_l0 hv hi hi' m k (n + 1) _ (by omega) (by omega) (by rw [show ((n + 1 : Nat) : Int) = (n : Int) + 1 from by omega]; exact hp.step (by omega) hK)
    · rw [if_neg hK, if_neg (by decide)]
      exact rtime_l0 hv hi hi' m k (n + 1) p (by omega) (by omega) (by rw [show ((n + 1 : Nat) : Int) = (n : Int) + 1 from by omega]; exact hp.skip (Bool.eq_false_iff.2 hK))
theorem rtime_eq {d : List S51} (hv : vd d = true) {i : Int} (hi : 0 ≤ i) (hi' : i < d.length) (k : Nat) (hk : 100 ≤ k) : waterhourref04_time.f k d i = some (timeOf d i) := by
  have hl32 := (vd_iff.1 hv).2.1
  unfold waterhourref04_time.f
  rw [Tells_eq hv (by omega) (by omega) (by omega) hi' k (by omega)]
  simp only [isK_beg, if_true, Option.bind_some, (tl_beg d hi).1, (tl_beg d hi).2]
  exact rtime_l0 hv hi hi' d.length k 0 (SL d i, SH d i) (by omega) (by omega) (TimeSpec.beg hi)
/-- The error of a question about some events, as the reference finds it. -/
theorem rfirst_l0 {d : List S51} (l : List Int) (hl : l.length ≤ 30) (c : Bool) : ∀ (m k n : Nat), l.length = n + m → m < k → waterhourref04_first.l0 k d l c n = some (if inds d 0 (l.drop n) = true then (if c = true then 0 else 31) else 1) := by
  intro m
  induction m with
  | zero =>
    intro k n hn hk
    obtain ⟨k, rfl⟩ : ∃ m, k = m + 1 := ⟨k - 1, by omega⟩
    simp only [waterhourref04_first.l0]
    rw [if_neg (by omega), List.drop_of_length_le (by omega)]
    cases c <;> rfl
  | succ m ih =>
    intro k n hn hk
    obtain ⟨k, rfl⟩ : ∃ m, k = m + 1 := ⟨k - 1, by omega⟩
    simp only [waterhourref04_first.l0]
    have hlt : n < l.length := by omega
    have e : l.drop n = rd l (n : Int) :: l.drop (n + 1) := by
      rw [List.drop_eq_getElem_cons hlt]
      congr 1
      unfold rd
      rw [Int.toNat_natCast, List.getD_eq_getElem?_getD, List.getElem?_eq_getElem hlt]
      rfl
    rw [if_pos (by omega), if_pos (by omega), Event_eq, e]
    simp only [Option.bind_some]
    unfold inds
    rw [List.all_cons]
    by_cases h : 0 ≤ rd l (n : Int) ∧ rd l (n : Int) < d.length
    · rw [if_pos (decide_eq_true h), decide_eq_true h.1, decide_eq_true h.2, Bool.true_and, Bool.true_and]
      rw [show wrap64 ((n : Int) + 1) = ((n + 1 : Nat) : Int) from by unfold wrap64; omega]
      exact ih k (n + 1) (by omega) (by omega)
    · rw [if_neg (by simpa using h), if_neg]
      simp only [Bool.and_eq_true, decide_eq_true_eq, not_and]
      intro h1
      exact absurd h1 h
theorem rfirst_eq (d : List S51) (l : List Int) (hl : l.length ≤ 30) (k : Nat) (hk : 2000 ≤ k) : waterhourref04_first.f k d l = some (if vd d = true then (if inds d 0 l = true then (if (clashOf d).2.2 = true then 31 else 0) else 1) else 40) := by
  unfold waterhourref04_first.f
  rw [rPossible_eq d k hk]
  by_cases hv : vd d = true
  · simp only [hv, Bool.true_and, Option.bind_some, if_true]
    have := rfirst_l0 (d := d) l hl (!(clashOf d).2.2) l.length k 0 (by omega) (by omega)
    rw [show ((0 : Nat) : Int) = 0 from rfl] at this
    rw [this, List.drop_zero]
    cases (clashOf d).2.2 <;> rfl
  · simp [hv]
theorem rfirst_A (d : List S51) (i : Int) (k : Nat) (hk : 2000 ≤ k) : waterhourref04_first.f k d [i] = some (readyA d i) := by
  rw [rfirst_eq d [i] (by simp) k hk]
  unfold readyA inds
  simp
theorem rfirst_E (d : List S51) (k : Nat) (hk : 2000 ≤ k) : waterhourref04_first.f k d [] = some (readyE d) := by
  rw [rfirst_eq d [] (by simp) k hk]
  unfold readyE inds
  simp
/-- The first that proves. -/
theorem firstIn_spec {d : List S51} (i : Int) (lat : Bool) (bound : Int) : ∀ n : Nat, n ≤ d.length + 1 →
    match firstIn d i lat bound (upK d false n) with
    | some x => prv d i lat bound x.1 = true ∧ ∀ j : Int, -1 ≤ j → j < x.1 → isK d j = true → prv d i lat bound j = false
    | none => ∀ j : Int, -1 ≤ j → j < (n : Int) - 1 → isK d j = true → prv d i lat bound j = false
  | 0, _ => by
    show ∀ j : Int, -1 ≤ j → j < ((0 : Nat) : Int) - 1 → isK d j = true → prv d i lat bound j = false
    intro j h1 h2
    omega
  | n + 1, hn => by
    have ih := firstIn_spec (d := d) i lat bound n (by omega)
    have hidx : idx d false n = (n : Int) - 1 := rfl
    by_cases hK : isK d (idx d false n) = true
    · have hr : -1 ≤ idx d false n ∧ idx d false n < d.length ∧ isK d (idx d false n) = true := ⟨by omega, by omega, hK⟩
      rw [upK_yes hr]
      cases hc : firstIn d i lat bound (upK d false n) with
      | some x =>
        rw [hc] at ih
        have : firstIn d i lat bound (upK d false n ++ [⟨idx d false n, hr⟩]) = some x := by unfold firstIn at hc ⊢; rw [List.find?_append, hc]; rfl
        rw [this]; exact ih
      | none =>
        rw [hc] at ih
        rw [firstIn_snoc d i lat bound _ _ hc]
        by_cases hp : prv d i lat bound (idx d false n) = true
        · rw [if_pos hp]
          exact ⟨hp, fun j h1 h2 h3 => ih j h1 (by simp only at h2; omega) h3⟩
        · rw [if_neg hp]
          show ∀ j : Int, -1 ≤ j → j < ((n + 1 : Nat) : Int) - 1 → isK d j = true → prv d i lat bound j = false
          intro j h1 h2 h3
          rcases Int.lt_or_le j ((n : Int) - 1) with q | q
          · exact ih j h1 q h3
          · obtain rfl : j = idx d false n := by omega
            exact Bool.eq_false_iff.2 hp
    · rw [upK_no (Bool.eq_false_iff.2 hK)]
      cases hc : firstIn d i lat bound (upK d false n) with
      | some x => rw [hc] at ih; exact ih
      | none =>
        rw [hc] at ih
        show ∀ j : Int, -1 ≤ j → j < ((n + 1 : Nat) : Int) - 1 → isK d j = true → prv d i lat bound j = false
        intro j h1 h2 h3
        rcases Int.lt_or_le j ((n : Int) - 1) with q | q
        · exact ih j h1 q h3
        · obtain rfl : j = idx d false n := by omega
          exact absurd h3 hK
/-- Where some event proves the bound, it is the first such that is told. -/
theorem firstOf_spec {d : List S51} {i : Int} {lat : Bool} {bound : Int} (h : ∃ j : Int, -1 ≤ j ∧ j < d.length ∧ isK d j = true ∧ prv d i lat bound j = true) :
    -1 ≤ firstOf d i lat bound ∧ firstOf d i lat bound < d.length ∧ isK d (firstOf d i lat bound) = true ∧ prv d i lat bound (firstOf d i lat bound) = true ∧ ∀ j : Int, -1 ≤ j → j < firstOf d i lat bound → isK d j = true → prv d i lat bound j = false := by
  have hs := firstIn_spec (d := d) i lat bound (d.length + 1) (Nat.le_refl _)
  unfold firstOf
  cases hc : firstIn d i lat bound (upK d false (d.length + 1)) with
  | some x => rw [hc] at hs; exact ⟨x.2.1, x.2.2.1, x.2.2.2, hs.1, hs.2⟩
  | none =>
    rw [hc] at hs
    obtain ⟨j, h1, h2, h3, h4⟩ := h
    have := hs j h1 (by omega) h3
    rw [h4] at this; cases this
theorem rProof_l0 {d : List S51} (hv : vd d = true) {i : Int} (hi : 0 ≤ i) (hi' : i < d.length) (lat : Bool) (bound : Int) (h : ∃ j : Int, -1 ≤ j ∧ j < d.length ∧ isK d j = true ∧ prv d i lat bound j = true) :
    ∀ (m k : Nat) (j : Int), firstOf d i lat bound = j + m → -1 ≤ j → m + 60 ≤ k → waterhourref04_Proof.l0 k d i lat bound j = some (firstOf d i lat bound, 0)
  | 0, k, j, hj, hj1, hk => by
    obtain ⟨k, rfl⟩ : ∃ m, k = m + 1 := ⟨k - 1, by omega⟩
    obtain ⟨f1, f2, f3, f4, f5⟩ := firstOf_spec h
    obtain rfl : j = firstOf d i lat bound := by omega
    simp only [waterhourref04_Proof.l0]
    rw [rproves_eq hv hi hi' f1 f2 lat bound k (by omega), f3, f4]
    rfl
  | m + 1, k, j, hj, hj1, hk => by
    obtain ⟨k, rfl⟩ : ∃ m, k = m + 1 := ⟨k - 1, by omega⟩
    obtain ⟨f1, f2, f3, f4, f5⟩ := firstOf_spec h
    have hl32 := (vd_iff.1 hv).2.1
    simp only [waterhourref04_Proof.l0]
    rw [rproves_eq hv hi hi' hj1 (by omega) lat bound k (by omega)]
    simp only [Option.bind_some]
    have hn : (isK d j && prv d i lat bound j) = false := by
      cases hK : isK d j with
      | false => rfl
      | true => rw [f5 j hj1 (by omega) hK]; rfl
    rw [hn, if_neg (by decide), show wrap64 (j + 1) = j + 1 from by unfold wrap64; omega]
    exact rProof_l0 hv hi hi' lat bound h m k (j + 1) (by omega) (by omega) (by omega)
theorem bound_proved {d : List S51} (hv : vd d = true) {i : Int} (hi : 0 ≤ i) (hi' : i < d.length) (lat : Bool) : ∃ j : Int, -1 ≤ j ∧ j < d.length ∧ isK d j = true ∧ prv d i lat (boundOf d i lat) j = true := by
  have hs := timeOf_spec hv hi hi'
  unfold prv boundOf
  cases lat
  · obtain ⟨j, a1, a2, a3, a4⟩ := hs.lo_
    exact ⟨j, a1, a2, a3, by simp [a4]⟩
  · obtain ⟨j, a1, a2, a3, a4⟩ := hs.hi_
    exact ⟨j, a1, a2, a3, by simp [a4]⟩
theorem readyA_zero {d : List S51} {i : Int} (h : readyA d i = 0) : vd d = true ∧ (0 ≤ i ∧ i < d.length) ∧ (clashOf d).2.2 = false := by
  unfold readyA at h
  by_cases hv : vd d = true
  · rw [if_pos hv] at h
    by_cases hi : 0 ≤ i ∧ i < d.length
    · rw [if_pos hi] at h
      cases hc : (clashOf d).2.2 with
      | false => exact ⟨hv, hi, rfl⟩
      | true => rw [hc, if_pos rfl] at h; omega
    · rw [if_neg hi] at h; omega
  · rw [if_neg hv] at h; omega
theorem rProof_eq (d : List S51) (i : Int) (lat : Bool) (k : Nat) (hk : 2000 ≤ k) : waterhourref04_Proof.f k d i lat = some (if readyA d i = 0 then firstOf d i lat (boundOf d i lat) else 0, readyA d i) := by
  obtain ⟨k, rfl⟩ : ∃ m, k = m + 1 := ⟨k - 1, by omega⟩
  unfold waterhourref04_Proof.f
  rw [rfirst_A d i (k + 1) hk]
  simp only [Option.bind_some]
  by_cases h : readyA d i = 0
  · obtain ⟨hv, hi, hc⟩ := readyA_zero h
    have hl32 := (vd_iff.1 hv).2.1
    rw [if_pos h, if_pos h, h, rtime_eq hv hi.1 hi.2 (k + 1) (by omega)]
    simp only [Option.bind_some, waterhourref04_Proof.j0]
    have hp := bound_proved hv hi.1 hi.2 lat
    have f := firstOf_spec hp
    have := rProof_l0 hv hi.1 hi.2 lat _ hp (firstOf d i lat (boundOf d i lat) + 1).toNat k (-1) (by omega) (by omega) (by omega)
    cases lat
    · rw [if_neg (by decide)]; exact this
    · rw [if_pos rfl]; exact this
  · rw [if_neg h, if_neg h]
end Go.Proofs.YtgiihjcpgjpkcaaDoor.Q
