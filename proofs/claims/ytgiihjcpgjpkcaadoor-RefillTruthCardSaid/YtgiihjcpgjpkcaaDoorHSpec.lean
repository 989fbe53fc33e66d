/- What the program's answers are made of: the clash that is told, the minutes of an event, the event that proves; no program in sight. -/
import Derived.Test.YtgiihjcpgjpkcaaDoorHPure1
import Derived.Test.YtgiihjcpgjpkcaaDoorHProof
import Derived.Test.YtgiihjcpgjpkcaaDoorHEnds
namespace Go.Proofs.YtgiihjcpgjpkcaaDoor.Q
open Go.RowKit Go.Proofs.YtgiihjcpgjpkcaaDoorW.PrintWords Go.Proofs.YtgiihjcpgjpkcaaDoorW.PrintLast Go.Proofs.YtgiihjcpgjpkcaaDoorW.PrintMore
set_option linter.unusedVariables false
set_option linter.unusedSimpArgs false

theorem take_succ' (d : List S51) (j : Nat) (h : j < d.length) : d.take (j + 1) = d.take j ++ [rd_T51 d (j : Int)] := by
  rw [List.take_succ_eq_append_getElem h]
  congr 2
  unfold rd_T51
  rw [Int.toNat_natCast, List.getD_eq_getElem?_getD, List.getElem?_eq_getElem h]
  rfl
theorem SL_succ (d : List S51) (j : Nat) (h : j < d.length) : SL d (j : Int) = SL d ((j : Int) - 1) + (rd_T51 d (j : Int)).f0.f0 ∧ SH d (j : Int) = SH d ((j : Int) - 1) + (rd_T51 d (j : Int)).f0.f1 := by
  unfold SL SH
  rw [show ((j : Int) + 1).toNat = j + 1 from by omega, show ((j : Int) - 1 + 1).toNat = j from by omega, take_succ' d j h, sLo_append, sHi_append]
  simp [sLo, sHi]
/-- Can the two, known, not be so? -/
def pairC (d : List S51) (a b : Int) : Bool := isK d a && isK d b && cannotB d a b
/-- x is what Clash tells of d: none, or the two with the least second one, and of these the greatest first one. -/
structure ClashSpec (d : List S51) (x : Int × Int × Bool) : Prop where
  none_ : x.2.2 = false → x = (0, 0, false) ∧ ∀ a b : Int, -1 ≤ a → a < b → b < d.length → pairC d a b = false
  some_ : x.2.2 = true → -1 ≤ x.1 ∧ x.1 < x.2.1 ∧ x.2.1 < d.length ∧ pairC d x.1 x.2.1 = true ∧ (∀ a b : Int, -1 ≤ a → a < b → b < x.2.1 → pairC d a b = false) ∧ ∀ a : Int, x.1 < a → a < x.2.1 → pairC d a x.2.1 = false
theorem ClashSpec.unique {d : List S51} {x y : Int × Int × Bool} (hx : ClashSpec d x) (hy : ClashSpec d y) : x = y := by
  obtain ⟨x1, x2, x3⟩ := x
  obtain ⟨y1, y2, y3⟩ := y
  have h1 := hx.none_
  have h2 := hx.some_
  have h3 := hy.none_
  have h4 := hy.some_
  simp only at h1 h2 h3 h4
  cases x3 <;> cases y3
  · rw [(h1 rfl).1, (h3 rfl).1]
  · obtain ⟨q1, q2, q3, q4, _⟩ := h4 rfl
    have := (h1 rfl).2 _ _ q1 q2 q3
    rw [q4] at this; cases this
  · obtain ⟨q1, q2, q3, q4, _⟩ := h2 rfl
    have := (h3 rfl).2 _ _ q1 q2 q3
    rw [q4] at this; cases this
  · obtain ⟨q1, q2, q3, q4, q5, q6⟩ := h2 rfl
    obtain ⟨r1, r2, r3, r4, r5, r6⟩ := h4 rfl
    have e2 : x2 = y2 := by
      rcases Int.lt_trichotomy x2 y2 with h | h | h
      · have := r5 _ _ q1 q2 h; rw [q4] at this; cases this
      · exact h
      · have := q5 _ _ r1 r2 h; rw [r4] at this; cases this
    subst e2
    have e1 : x1 = y1 := by
      rcases Int.lt_trichotomy x1 y1 with h | h | h
      · have := q6 _ h r2; rw [r4] at this; cases this
      · exact h
      · have := r6 _ h q2; rw [q4] at this; cases this
    subst e1
    rfl
/-- .. of the program's sequences. -/
theorem clashIn_spec {d : List S51} (b : Int) (hb : isK d b = true) (hbl : b < d.length) : ∀ k : Nat, k ≤ d.length + 1 →
    match clashIn d b (upK d true k) with
    | some x => x.1 < b ∧ pairC d x.1 b = true ∧ ∀ a : Int, x.1 < a → a < b → pairC d a b = false
    | none => ∀ a : Int, -1 ≤ a → (d.length : Int) - 1 - k < a → a < b → pairC d a b = false
  | 0, _ => by
    show ∀ a : Int, -1 ≤ a → (d.length : Int) - 1 - (0 : Nat) < a → a < b → pairC d a b = false
    intro a h1 h2 h3
    omega
  | k + 1, hk => by
    have ih := clashIn_spec b hb hbl k (by omega)
    have hidx : idx d true k = (d.length : Int) - 1 - k := rfl
    by_cases hK : isK d (idx d true k) = true
    · have hr : -1 ≤ idx d true k ∧ idx d true k < d.length ∧ isK d (idx d true k) = true := ⟨by omega, by omega, hK⟩
      rw [upK_yes hr]
      cases hc : clashIn d b (upK d true k) with
      | some x =>
        rw [hc] at ih
        have : clashIn d b (upK d true k ++ [⟨idx d true k, hr⟩]) = some x := by unfold clashIn at hc ⊢; rw [List.find?_append, hc]; rfl
        rw [this]; exact ih
      | none =>
        rw [hc] at ih
        rw [clashIn_snoc d b _ _ hc]
        by_cases hh : hit d b (idx d true k) = true
        · rw [if_pos hh]
          unfold hit at hh
          rw [Bool.and_eq_true, decide_eq_true_eq] at hh
          refine ⟨hh.1, ?_, fun a h1 h2 => ih a (by simp only at h1; omega) (by simp only at h1; omega) h2⟩
          show pairC d (idx d true k) b = true
          unfold pairC
          rw [hK, hb, hh.2]; rfl
        · rw [if_neg hh]
          intro a h1 h2 h3
          rcases Int.lt_or_le ((d.length : Int) - 1 - k) a with h | h
          · exact ih a h1 h h3
          · obtain rfl : a = idx d true k := by omega
            unfold hit at hh
            rw [decide_eq_true h3, Bool.true_and] at hh
            unfold pairC
            rw [Bool.eq_false_iff.2 hh, Bool.and_false]
    · rw [upK_no (Bool.eq_false_iff.2 hK)]
      cases hc : clashIn d b (upK d true k) with
      | some x => rw [hc] at ih; exact ih
      | none =>
        rw [hc] at ih
        intro a h1 h2 h3
        rcases Int.lt_or_le ((d.length : Int) - 1 - k) a with h | h
        · exact ih a h1 h h3
        · obtain rfl : a = idx d true k := by omega
          unfold pairC
          rw [Bool.eq_false_iff.2 hK]; rfl
theorem clashAll_spec {d : List S51} : ∀ k : Nat, k ≤ d.length + 1 →
    match clashAll d (upK d false k) with
    | some x => -1 ≤ x.1 ∧ x.1 < x.2 ∧ x.2 < d.length ∧ pairC d x.1 x.2 = true ∧ (∀ a b : Int, -1 ≤ a → a < b → b < x.2 → pairC d a b = false) ∧ ∀ a : Int, x.1 < a → a < x.2 → pairC d a x.2 = false
    | none => ∀ a b : Int, -1 ≤ a → a < b → b < (k : Int) - 1 → pairC d a b = false
  | 0, _ => by
    show ∀ a b : Int, -1 ≤ a → a < b → b < ((0 : Nat) : Int) - 1 → pairC d a b = false
    intro a b h1 h2 h3
    omega
  | k + 1, hk => by
    have ih := clashAll_spec (d := d) k (by omega)
    have hidx : idx d false k = (k : Int) - 1 := rfl
    by_cases hK : isK d (idx d false k) = true
    · have hr : -1 ≤ idx d false k ∧ idx d false k < d.length ∧ isK d (idx d false k) = true := ⟨by omega, by omega, hK⟩
      rw [upK_yes hr]
      cases hc : clashAll d (upK d false k) with
      | some x =>
        rw [hc] at ih
        have : clashAll d (upK d false k ++ [⟨idx d false k, hr⟩]) = some x := by unfold clashAll at hc ⊢; rw [List.findSome?_append, hc]; rfl
        rw [this]; exact ih
      | none =>
        rw [hc] at ih
        rw [clashAll_snoc d _ _ hc]
        have hin := clashIn_spec (d := d) (idx d false k) hK (by omega) (d.length + 1) (by omega)
        cases hci : clashIn d (idx d false k) (upK d true (d.length + 1)) with
        | some y =>
          rw [hci] at hin
          exact ⟨y.2.1, hin.1, by simp only; omega, hin.2.1, fun a b h1 h2 h3 => ih a b h1 h2 (by simp only at h3; omega), hin.2.2⟩
        | none =>
          rw [hci] at hin
          show ∀ a b : Int, -1 ≤ a → a < b → b < ((k + 1 : Nat) : Int) - 1 → pairC d a b = false
          intro a b h1 h2 h3
          rcases Int.lt_or_le b ((k : Int) - 1) with h | h
          · exact ih a b h1 h2 h
          · obtain rfl : b = idx d false k := by omega
            exact hin a h1 (by omega) h2
    · rw [upK_no (Bool.eq_false_iff.2 hK)]
      cases hc : clashAll d (upK d false k) with
      | some x => rw [hc] at ih; exact ih
      | none =>
        rw [hc] at ih
        intro a b h1 h2 h3
        rcases Int.lt_or_le b ((k : Int) - 1) with h | h
        · exact ih a b h1 h2 h
        · obtain rfl : b = idx d false k := by omega
          unfold pairC
          rw [Bool.eq_false_iff.2 hK, Bool.and_false]; rfl
theorem clashOf_spec (d : List S51) : ClashSpec d (clashOf d) := by
  have h := clashAll_spec (d := d) (d.length + 1) (Nat.le_refl _)
  unfold clashOf
  cases hc : clashAll d (upK d false (d.length + 1)) with
  | some x => rw [hc] at h; exact ⟨(fun e => by cases e), (fun _ => h)⟩
  | none => rw [hc] at h; exact ⟨(fun _ => ⟨rfl, fun a b h1 h2 h3 => h a b h1 h2 (by omega)⟩), (fun e => by cases e)⟩
theorem mx_max (a b : Int) : mx a b = max a b := by unfold mx; split <;> omega
theorem mn_min (a b : Int) : mn a b = min a b := by unfold mn; split <;> omega
theorem isK_beg (d : List S51) : isK d (-1) = true := rfl
theorem tl_beg (d : List S51) {i : Int} (hi : 0 ≤ i) : tlo d (-1) i = SL d i ∧ thi d (-1) i = SH d i := by
  have e1 : SL d (-1) = 0 := by unfold SL; simp [sLo]
  have e2 : SH d (-1) = 0 := by unfold SH; simp [sHi]
  unfold tlo thi
  rw [if_pos (by omega), if_pos (by omega), e1, e2]
  simp [atOf]
structure TimeSpec (d : List S51) (i : Int) (n : Int) (p : Int × Int) : Prop where
  lo : ∀ j : Int, -1 ≤ j → j < n → isK d j = true → tlo d j i ≤ p.1
  lo_ : ∃ j : Int, -1 ≤ j ∧ j < n ∧ isK d j = true ∧ tlo d j i = p.1
  hi : ∀ j : Int, -1 ≤ j → j < n → isK d j = true → p.2 ≤ thi d j i
  hi_ : ∃ j : Int, -1 ≤ j ∧ j < n ∧ isK d j = true ∧ thi d j i = p.2
theorem TimeSpec.unique {d : List S51} {i n : Int} {p q : Int × Int} (h : TimeSpec d i n p) (g : TimeSpec d i n q) : p = q := by
  obtain ⟨j1, a1, a2, a3, a4⟩ := h.lo_
  obtain ⟨j2, b1, b2, b3, b4⟩ := g.lo_
  obtain ⟨j3, c1, c2, c3, c4⟩ := h.hi_
  obtain ⟨j4, d1, d2, d3, d4⟩ := g.hi_
  have := g.lo j1 a1 a2 a3
  have := h.lo j2 b1 b2 b3
  have := g.hi j3 c1 c2 c3
  have := h.hi j4 d1 d2 d3
  exact Prod.ext (by omega) (by omega)
theorem TimeSpec.beg {d : List S51} {i : Int} (hi : 0 ≤ i) : TimeSpec d i 0 (SL d i, SH d i) := by
  have ht := tl_beg d hi
  refine ⟨fun j h1 h2 _ => ?_, ⟨-1, by omega, by omega, rfl, ht.1⟩, fun j h1 h2 _ => ?_, ⟨-1, by omega, by omega, rfl, ht.2⟩⟩
  · obtain rfl : j = -1 := by omega
    rw [ht.1]; simp only; omega
  · obtain rfl : j = -1 := by omega
    rw [ht.2]; simp only; omega
theorem TimeSpec.step {d : List S51} {i n : Int} {p : Int × Int} (h : TimeSpec d i n p) (hn : 0 ≤ n) (hk : isK d n = true) : TimeSpec d i (n + 1) (mx p.1 (tlo d n i), mn p.2 (thi d n i)) := by
  rw [mx_max, mn_min]
  refine ⟨fun j h1 h2 h3 => ?_, ?_, fun j h1 h2 h3 => ?_, ?_⟩
  · rcases Int.lt_or_le j n with q | q
    · have := h.lo j h1 q h3; simp only; omega
    · obtain rfl : j = n := by omega
      simp only; omega
  · obtain ⟨j, a1, a2, a3, a4⟩ := h.lo_
    by_cases q : tlo d n i ≤ p.1
    · exact ⟨j, a1, by omega, a3, by simp only; omega⟩
    · exact ⟨n, by omega, by omega, hk, by simp only; omega⟩
  · rcases Int.lt_or_le j n with q | q
    · have := h.hi j h1 q h3; simp only; omega
    · obtain rfl : j = n := by omega
      simp only; omega
  · obtain ⟨j, a1, a2, a3, a4⟩ := h.hi_
    by_cases q : p.2 ≤ thi d n i
    · exact ⟨j, a1, by omega, a3, by simp only; omega⟩
    · exact ⟨n, by omega, by omega, hk, by simp only; omega⟩
theorem TimeSpec.skip {d : List S51} {i n : Int} {p : Int × Int} (h : TimeSpec d i n p) (hk : isK d n = false) : TimeSpec d i (n + 1) p := by
  have key : ∀ j, j < n + 1 → isK d j = true → j < n := fun j h1 h2 => by
    rcases Int.lt_or_le j n with q | q
    · exact q
    · obtain rfl : j = n := by omega
      rw [hk] at h2; cases h2
  refine ⟨fun j h1 h2 h3 => h.lo j h1 (key j h2 h3) h3, ?_, fun j h1 h2 h3 => h.hi j h1 (key j h2 h3) h3, ?_⟩
  · obtain ⟨j, a1, a2, a3, a4⟩ := h.lo_; exact ⟨j, a1, by omega, a3, a4⟩
  · obtain ⟨j, a1, a2, a3, a4⟩ := h.hi_; exact ⟨j, a1, by omega, a3, a4⟩
theorem narAll_spec {d : List S51} (hv : vd d = true) {i : Int} (hi : 0 ≤ i) (hi' : i < d.length) : ∀ n : Nat, n ≤ d.length → TimeSpec d i n (narAll d i (upK d false (n + 1)))
  | 0, _ => by
    have hr : -1 ≤ idx d false 0 ∧ idx d false 0 < d.length ∧ isK d (idx d false 0) = true := ⟨by show (-1 : Int) ≤ -1; omega, by show (-1 : Int) < _; omega, rfl⟩
    have e : narAll d i (upK d false (0 + 1)) = (SL d i, SH d i) := by
      rw [upK_yes hr, narAll_snoc]
      have e0 : upK d false 0 = [] := rfl
      have ei : idx d false 0 = -1 := rfl
      rw [e0]
      unfold nar narAll
      simp only [ei, List.foldl_nil, (tl_beg d hi).1, (tl_beg d hi).2]
      have b := SL_bound hv i
      rw [mx_max, mn_min]
      exact Prod.ext (by simp only; omega) (by simp only; omega)
    rw [e]
    exact TimeSpec.beg hi
  | n + 1, hn => by
    have ih := narAll_spec hv hi hi' n (by omega)
    have ei : idx d false (n + 1) = (n : Int) := by show ((n + 1 : Nat) : Int) - 1 = n; omega
    by_cases hK : isK d (idx d false (n + 1)) = true
    · have hr : -1 ≤ idx d false (n + 1) ∧ idx d false (n + 1) < d.length ∧ isK d (idx d false (n + 1)) = true := ⟨by omega, by omega, hK⟩
      rw [upK_yes hr, narAll_snoc]
      unfold nar
      simp only [ei]
      rw [ei] at hK
      exact ih.step (by omega) hK
    · rw [upK_no (Bool.eq_false_iff.2 hK)]
      rw [ei] at hK
      exact ih.skip (Bool.eq_false_iff.2 hK)
theorem timeOf_spec {d : List S51} (hv : vd d = true) {i : Int} (hi : 0 ≤ i) (hi' : i < d.length) : TimeSpec d i d.length (timeOf d i) := narAll_spec hv hi hi' d.length (Nat.le_refl _)
/-- The first that proves. -/
theorem firstIn_spec {d : List S51} (i : Int) (lat : Bool) (bound : Int) : ∀ n : Nat, n ≤ d.length + 1 →
    match firstIn d i lat bound (upK d false n) with
    | some x => prv d i lat bound x.1 = true ∧ ∀ j : Int, -1 ≤ j → j < x.1 → isK d j = true → prv d i lat bound j = false
    | none => ∀ j : Int, -1 ≤ j → j < (n : Int) - 1 → isK d j = true → prv d i lat bound j = false
  | 0, _ => by
    show ∀ j : Int, -1 ≤ j → j < ((0 : Nat) : Int) - 1 → isK d j = true → prv d i lat bound j = false
    intro j h1 h2
    omega
  | n + 1, hn => by
    have ih := firstIn_spec (d := d) i lat bound n (by omega)
    have hidx : idx d false n = (n : Int) - 1 := rfl
    by_cases hK : isK d (idx d false n) = true
    · have hr : -1 ≤ idx d false n ∧ idx d false n < d.length ∧ isK d (idx d false n) = true := ⟨by omega, by omega, hK⟩
      rw [upK_yes hr]
      cases hc : firstIn d i lat bound (upK d false n) with
      | some x =>
        rw [hc] at ih
        have : firstIn d i lat bound (upK d false n ++ [⟨idx d false n, hr⟩]) = some x := by unfold firstIn at hc ⊢; rw [List.find?_append, hc]; rfl
        rw [this]; exact ih
      | none =>
        rw [hc] at ih
        rw [firstIn_snoc d i lat bound _ _ hc]
        by_cases hp : prv d i lat bound (idx d false n) = true
        · rw [if_pos hp]
          exact ⟨hp, fun j h1 h2 h3 => ih j h1 (by simp only at h2; omega) h3⟩
        · rw [if_neg hp]
          show ∀ j : Int, -1 ≤ j → j < ((n + 1 : Nat) : Int) - 1 → isK d j = true → prv d i lat bound j = false
          intro j h1 h2 h3
          rcases Int.lt_or_le j ((n : Int) - 1) with q | q
          · exact ih j h1 q h3
          · obtain rfl : j = idx d false n := by omega
            exact Bool.eq_false_iff.2 hp
    · rw [upK_no (Bool.eq_false_iff.2 hK)]
      cases hc : firstIn d i lat bound (upK d false n) with
      | some x => rw [hc] at ih; exact ih
      | none =>
        rw [hc] at ih
        show ∀ j : Int, -1 ≤ j → j < ((n + 1 : Nat) : Int) - 1 → isK d j = true → prv d i lat bound j = false
        intro j h1 h2 h3
        rcases Int.lt_or_le j ((n : Int) - 1) with q | q
        · exact ih j h1 q h3
        · obtain rfl : j = idx d false n := by omega
          exact absurd h3 hK
/-- Where some event proves the bound, it is the first such that is told. -/
theorem firstOf_spec {d : List S51} {i : Int} {lat : Bool} {bound : Int} (h : ∃ j : Int, -1 ≤ j ∧ j < d.length ∧ isK d j = true ∧ prv d i lat bound j = true) :
    -1 ≤ firstOf d i lat bound ∧ firstOf d i lat bound < d.length ∧ isK d (firstOf d i lat bound) = true ∧ prv d i lat bound (firstOf d i lat bound) = true ∧ ∀ j : Int, -1 ≤ j → j < firstOf d i lat bound → isK d j = true → prv d i lat bound j = false := by
  have hs := firstIn_spec (d := d) i lat bound (d.length + 1) (Nat.le_refl _)
  unfold firstOf
  cases hc : firstIn d i lat bound (upK d false (d.length + 1)) with
  | some x => rw [hc] at hs; exact ⟨x.2.1, x.2.2.1, x.2.2.2, hs.1, hs.2⟩
  | none =>
    rw [hc] at hs
    obtain ⟨j, h1, h2, h3, h4⟩ := h
    have := hs j h1 (by omega) h3
    rw [h4] at this; cases this
theorem bound_proved {d : List S51} (hv : vd d = true) {i : Int} (hi : 0 ≤ i) (hi' : i < d.length) (lat : Bool) : ∃ j : Int, -1 ≤ j ∧ j < d.length ∧ isK d j = true ∧ prv d i lat (boundOf d i lat) j = true := by
  have hs := timeOf_spec hv hi hi'
  unfold prv boundOf
  cases lat
  · obtain ⟨j, a1, a2, a3, a4⟩ := hs.lo_
    exact ⟨j, a1, a2, a3, by simp [a4]⟩
  · obtain ⟨j, a1, a2, a3, a4⟩ := hs.hi_
    exact ⟨j, a1, a2, a3, by simp [a4]⟩
theorem readyA_zero {d : List S51} {i : Int} (h : readyA d i = 0) : vd d = true ∧ (0 ≤ i ∧ i < d.length) ∧ (clashOf d).2.2 = false := by
  unfold readyA at h
  by_cases hv : vd d = true
  · rw [if_pos hv] at h
    by_cases hi : 0 ≤ i ∧ i < d.length
    · rw [if_pos hi] at h
      cases hc : (clashOf d).2.2 with
      | false => exact ⟨hv, hi, rfl⟩
      | true => rw [hc, if_pos rfl] at h; omega
    · rw [if_neg hi] at h; omega
  · rw [if_neg hv] at h; omega
theorem readyE_zero {d : List S51} (h : readyE d = 0) : vd d = true ∧ (clashOf d).2.2 = false := by
  unfold readyE at h
  by_cases hv : vd d = true
  · rw [if_pos hv] at h
    cases hc : (clashOf d).2.2 with
    | false => exact ⟨hv, rfl⟩
    | true => rw [hc, if_pos rfl] at h; omega
  · rw [if_neg hv] at h; omega
theorem time_bound {d : List S51} (hv : vd d = true) {i : Int} (hi : 0 ≤ i) (hi' : i < d.length) : -33554432 ≤ (timeOf d i).1 ∧ (timeOf d i).1 ≤ 33554432 ∧ -33554432 ≤ (timeOf d i).2 ∧ (timeOf d i).2 ≤ 33554432 := by
  have hs := timeOf_spec hv hi hi'
  obtain ⟨j, a1, a2, a3, a4⟩ := hs.lo_
  obtain ⟨q, b1, b2, b3, b4⟩ := hs.hi_
  have h1 := tell_bound hv a2 i
  have h2 := tell_bound hv b2 i
  omega
/-- The minutes of an event, or of the beginning. -/
def timeB (d : List S51) (a : Int) : Int × Int := if 0 ≤ a then timeOf d a else (0, 0)
def betweenOf (d : List S51) (a b : Int) : Int × Int := (mx (SL d b - SL d a) ((timeOf d b).1 - (timeB d a).2), mn (SH d b - SH d a) ((timeOf d b).2 - (timeB d a).1))
def betweenErr (d : List S51) (a b : Int) : Int := if vd d = true then (if -1 ≤ a ∧ a < d.length ∧ 0 ≤ b ∧ b < d.length ∧ a < b then (if (clashOf d).2.2 = true then 31 else 0) else 1) else 40
theorem betweenErr_arg {d : List S51} (hv : vd d = true) {a b : Int} (h : ¬ (-1 ≤ a ∧ a < d.length ∧ 0 ≤ b ∧ b < d.length ∧ a < b)) : betweenErr d a b = 1 := by
  unfold betweenErr
  rw [if_pos hv, if_neg h]
theorem betweenErr_yes {d : List S51} (hv : vd d = true) {a b : Int} (h : -1 ≤ a ∧ a < d.length ∧ 0 ≤ b ∧ b < d.length ∧ a < b) : betweenErr d a b = if (clashOf d).2.2 = true then 31 else 0 := by
  unfold betweenErr
  rw [if_pos hv, if_pos h]
end Go.Proofs.YtgiihjcpgjpkcaaDoor.Q
