/- Plain laws for RefillDays, no program in sight but the functions' names. -/
import Derived.Test.YtgiihjcpgjpkcaaDoorKM0
import Derived.Test.YtgiihjcpgjpkcaaDoorKHProof
import Derived.Test.YtgiihjcpgjpkcaaDoorKHEnds
import Derived.Test.YtgiihjcpgjpkcaaDoorKHCheck
import Derived.Test.YtgiihjcpgjpkcaaDoorKQF
import Derived.Test.YtgiihjcpgjpkcaaDoorKQG
import Derived.Test.YtgiihjcpgjpkcaaDoorKQI
import Derived.Test.YtgiihjcpgjpkcaaDoorKQ0
import Derived.Test.YtgiihjcpgjpkcaaDoorKQB
import Derived.Test.YtgiihjcpgjpkcaaDoorKHTime
import Derived.Test.YtgiihjcpgjpkcaaDoorKHKnown
import Derived.Test.YtgiihjcpgjpkcaaDoorKQH
import Derived.Test.YtgiihjcpgjpkcaaDoorKQC
import Derived.Test.YtgiihjcpgjpkcaaDoorKQCb
import Derived.Test.YtgiihjcpgjpkcaaDoorKQD
import Derived.Test.YtgiihjcpgjpkcaaDoorKQDb
import Derived.Test.YtgiihjcpgjpkcaaDoorKQDc
import Derived.Test.YtgiihjcpgjpkcaaDoorKQQ
import Derived.Test.YtgiihjcpgjpkcaaDoorKQN
section
namespace Go.Proofs.YtgiihjcpgjpkcaaDoor.Q
open Go.RowKit Go.Proofs.YtgiihjcpgjpkcaaDoorW.PrintWords Go.Proofs.YtgiihjcpgjpkcaaDoorW.PrintLast Go.Proofs.YtgiihjcpgjpkcaaDoorW.PrintMore
set_option linter.unusedVariables false
set_option linter.unusedSimpArgs false
theorem take_succ' (d : List S51) (j : Nat) (h : j < d.length) : d.take (j + 1) = d.take j ++ [rd_T51 d (j : Int)] := by
  rw [List.take_succ_eq_append_getElem h]
  congr 2
  unfold rd_T51
  rw [Int.toNat_natCast, List.getD_eq_getElem?_getD, List.getElem?_eq_getElem h]
  rfl
theorem SL_succ (d : List S51) (j : Nat) (h : j < d.length) : SL d (j : Int) = SL d ((j : Int) - 1) + (rd_T51 d (j : Int)).f0.f0 ∧ SH d (j : Int) = SH d ((j : Int) - 1) + (rd_T51 d (j : Int)).f0.f1 := by
  unfold SL SH
  rw [show ((j : Int) + 1).toNat = j + 1 from by omega, show ((j : Int) - 1 + 1).toNat = j from by omega, take_succ' d j h, sLo_append, sHi_append]
  simp [sLo, sHi]
def pairC (d : List S51) (a b : Int) : Bool := isK d a && isK d b && cannotB d a b
structure ClashSpec (d : List S51) (x : Int × Int × Bool) : Prop where
  none_ : x.2.2 = false → x = (0, 0, false) ∧ ∀ a b : Int, -1 ≤ a → a < b → b < d.length → pairC d a b = false
  some_ : x.2.2 = true → -1 ≤ x.1 ∧ x.1 < x.2.1 ∧ x.2.1 < d.length ∧ pairC d x.1 x.2.1 = true ∧ (∀ a b : Int, -1 ≤ a → a < b → b < x.2.1 → pairC d a b = false) ∧ ∀ a : Int, x.1 < a → a < x.2.1 → pairC d a x.2.1 = false
theorem ClashSpec.unique {d : List S51} {x y : Int × Int × Bool} (hx : ClashSpec d x) (hy : ClashSpec d y) : x = y := by
  obtain ⟨x1, x2, x3⟩ := x
  obtain ⟨y1, y2, y3⟩ := y
  have h1 := hx.none_
  have h2 := hx.some_
  have h3 := hy.none_
  have h4 := hy.some_
  simp only at h1 h2 h3 h4
  cases x3 <;> cases y3
  · rw [(h1 rfl).1, (h3 rfl).1]
  · obtain ⟨q1, q2, q3, q4, _⟩ := h4 rfl
    have := (h1 rfl).2 _ _ q1 q2 q3
    rw [q4] at this; cases this
  · obtain ⟨q1, q2, q3, q4, _⟩ := h2 rfl
    have := (h3 rfl).2 _ _ q1 q2 q3
    rw [q4] at this; cases this
  · obtain ⟨q1, q2, q3, q4, q5, q6⟩ := h2 rfl
    obtain ⟨r1, r2, r3, r4, r5, r6⟩ := h4 rfl
    have e2 : x2 = y2 := by
      rcases Int.lt_trichotomy x2 y2 with h | h | h
      · have := r5 _ _ q1 q2 h; rw [q4] at this; cases this
      · exact h
      · have := q5 _ _ r1 r2 h; rw [r4] at this; cases this
    subst e2
    have e1 : x1 = y1 := by
      rcases Int.lt_trichotomy x1 y1 with h | h | h
      · have := q6 _ h r2; rw [r4] at this; cases this
      · exact h
      · have := r6 _ h q2; rw [q4] at this; cases this
    subst e1
    rfl
theorem clashIn_spec {d : List S51} (b : Int) (hb : isK d b = true) (hbl : b < d.length) : ∀ k : Nat, k ≤ d.length + 1 →
    match clashIn d b (upK d true k) with
    | some x => x.1 < b ∧ pairC d x.1 b = true ∧ ∀ a : Int, x.1 < a → a < b → pairC d a b = false
    | none => ∀ a : Int, -1 ≤ a → (d.length : Int) - 1 - k < a → a < b → pairC d a b = false
  | 0, _ => by
    show ∀ a : Int, -1 ≤ a → (d.length : Int) - 1 - (0 : Nat) < a → a < b → pairC d a b = false
    intro a h1 h2 h3
    omega
  | k + 1, hk => by
    have ih := clashIn_spec b hb hbl k (by omega)
    have hidx : idx d true k = (d.length : Int) - 1 - k := rfl
    by_cases hK : isK d (idx d true k) = true
    · have hr : -1 ≤ idx d true k ∧ idx d true k < d.length ∧ isK d (idx d true k) = true := ⟨by omega, by omega, hK⟩
      rw [upK_yes hr]
      cases hc : clashIn d b (upK d true k) with
      | some x =>
        rw [hc] at ih
        have : clashIn d b (upK d true k ++ [⟨idx d true k, hr⟩]) = some x := by unfold clashIn at hc ⊢; rw [List.find?_append, hc]; rfl
        rw [this]; exact ih
      | none =>
        rw [hc] at ih
        rw [clashIn_snoc d b _ _ hc]
        by_cases hh : hit d b (idx d true k) = true
        · rw [if_pos hh]
          unfold hit at hh
          rw [Bool.and_eq_true, decide_eq_true_eq] at hh
          refine ⟨hh.1, ?_, fun a h1 h2 => ih a (by simp only at h1; omega) (by simp only at h1; omega) h2⟩
          show pairC d (idx d true k) b = true
          unfold pairC
          rw [hK, hb, hh.2]; rfl
        · rw [if_neg hh]
          intro a h1 h2 h3
          rcases Int.lt_or_le ((d.length : Int) - 1 - k) a with h | h
          · exact ih a h1 h h3
          · obtain rfl : a = idx d true k := by omega
            unfold hit at hh
            rw [decide_eq_true h3, Bool.true_and] at hh
            unfold pairC
            rw [Bool.eq_false_iff.2 hh, Bool.and_false]
    · rw [upK_no (Bool.eq_false_iff.2 hK)]
      cases hc : clashIn d b (upK d true k) with
      | some x => rw [hc] at ih; exact ih
      | none =>
        rw [hc] at ih
        intro a h1 h2 h3
        rcases Int.lt_or_le ((d.length : Int) - 1 - k) a with h | h
        · exact ih a h1 h h3
        · obtain rfl : a = idx d true k := by omega
          unfold pairC
          rw [Bool.eq_false_iff.2 hK]; rfl
theorem clashAll_spec {d : List S51} : ∀ k : Nat, k ≤ d.length + 1 →
    match clashAll d (upK d false k) with
    | some x => -1 ≤ x.1 ∧ x.1 < x.2 ∧ x.2 < d.length ∧ pairC d x.1 x.2 = true ∧ (∀ a b : Int, -1 ≤ a → a < b → b < x.2 → pairC d a b = false) ∧ ∀ a : Int, x.1 < a → a < x.2 → pairC d a x.2 = false
    | none => ∀ a b : Int, -1 ≤ a → a < b → b < (k : Int) - 1 → pairC d a b = false
  | 0, _ => by
    show ∀ a b : Int, -1 ≤ a → a < b → b < ((0 : Nat) : Int) - 1 → pairC d a b = false
    intro a b h1 h2 h3
    omega
  | k + 1, hk => by
    have ih := clashAll_spec (d := d) k (by omega)
    have hidx : idx d false k = (k : Int) - 1 := rfl
    by_cases hK : isK d (idx d false k) = true
    · have hr : -1 ≤ idx d false k ∧ idx d false k < d.length ∧ isK d (idx d false k) = true := ⟨by omega, by omega, hK⟩
      rw [upK_yes hr]
      cases hc : clashAll d (upK d false k) with
      | some x =>
        rw [hc] at ih
        have : clashAll d (upK d false k ++ [⟨idx d false k, hr⟩]) = some x := by unfold clashAll at hc ⊢; rw [List.findSome?_append, hc]; rfl
        rw [this]; exact ih
      | none =>
        rw [hc] at ih
        rw [clashAll_snoc d _ _ hc]
        have hin := clashIn_spec (d := d) (idx d false k) hK (by omega) (d.length + 1) (by omega)
        cases hci : clashIn d (idx d false k) (upK d true (d.length + 1)) with
        | some y =>
          rw [hci] at hin
          exact ⟨y.2.1, hin.1, by simp only; omega, hin.2.1, fun a b h1 h2 h3 => ih a b h1 h2 (by simp only at h3; omega), hin.2.2⟩
        | none =>
          rw [hci] at hin
          show ∀ a b : Int, -1 ≤ a → a < b → b < ((k + 1 : Nat) : Int) - 1 → pairC d a b = false
          intro a b h1 h2 h3
          rcases Int.lt_or_le b ((k : Int) - 1) with h | h
          · exact ih a b h1 h2 h
          · obtain rfl : b = idx d false k := by omega
            exact hin a h1 (by omega) h2
    · rw [upK_no (Bool.eq_false_iff.2 hK)]
      cases hc : clashAll d (upK d false k) with
      | some x => rw [hc] at ih; exact ih
      | none =>
        rw [hc] at ih
        intro a b h1 h2 h3
        rcases Int.lt_or_le b ((k : Int) - 1) with h | h
        · exact ih a b h1 h2 h
        · obtain rfl : b = idx d false k := by omega
          unfold pairC
          rw [Bool.eq_false_iff.2 hK, Bool.and_false]; rfl
theorem clashOf_spec (d : List S51) : ClashSpec d (clashOf d) := by
  have h := clashAll_spec (d := d) (d.length + 1) (Nat.le_refl _)
  unfold clashOf
  cases hc : clashAll d (upK d false (d.length + 1)) with
  | some x => rw [hc] at h; exact ⟨(fun e => by cases e), (fun _ => h)⟩
  | none => rw [hc] at h; exact ⟨(fun _ => ⟨rfl, fun a b h1 h2 h3 => h a b h1 h2 (by omega)⟩), (fun e => by cases e)⟩
theorem mx_max (a b : Int) : mx a b = max a b := by unfold mx; split <;> omega
theorem mn_min (a b : Int) : mn a b = min a b := by unfold mn; split <;> omega
theorem isK_beg (d : List S51) : isK d (-1) = true := rfl
theorem tl_beg (d : List S51) {i : Int} (hi : 0 ≤ i) : tlo d (-1) i = SL d i ∧ thi d (-1) i = SH d i := by
  have e1 : SL d (-1) = 0 := by unfold SL; simp [sLo]
  have e2 : SH d (-1) = 0 := by unfold SH; simp [sHi]
  unfold tlo thi
  rw [if_pos (by omega), if_pos (by omega), e1, e2]
  simp [atOf]
structure TimeSpec (d : List S51) (i : Int) (n : Int) (p : Int × Int) : Prop where
  lo : ∀ j : Int, -1 ≤ j → j < n → isK d j = true → tlo d j i ≤ p.1
  lo_ : ∃ j : Int, -1 ≤ j ∧ j < n ∧ isK d j = true ∧ tlo d j i = p.1
  hi : ∀ j : Int, -1 ≤ j → j < n → isK d j = true → p.2 ≤ thi d j i
  hi_ : ∃ j : Int, -1 ≤ j ∧ j < n ∧ isK d j = true ∧ thi d j i = p.2
theorem TimeSpec.unique {d : List S51} {i n : Int} {p q : Int × Int} (h : TimeSpec d i n p) (g : TimeSpec d i n q) : p = q := by
  obtain ⟨j1, a1, a2, a3, a4⟩ := h.lo_
  obtain ⟨j2, b1, b2, b3, b4⟩ := g.lo_
  obtain ⟨j3, c1, c2, c3, c4⟩ := h.hi_
  obtain ⟨j4, d1, d2, d3, d4⟩ := g.hi_
  have := g.lo j1 a1 a2 a3
  have := h.lo j2 b1 b2 b3
  have := g.hi j3 c1 c2 c3
  have := h.hi j4 d1 d2 d3
  exact Prod.ext (by omega) (by omega)
theorem TimeSpec.beg {d : List S51} {i : Int} (hi : 0 ≤ i) : TimeSpec d i 0 (SL d i, SH d i) := by
  have ht := tl_beg d hi
  refine ⟨fun j h1 h2 _ => ?_, ⟨-1, by omega, by omega, rfl, ht.1⟩, fun j h1 h2 _ => ?_, ⟨-1, by omega, by omega, rfl, ht.2⟩⟩
  · obtain rfl : j = -1 := by omega
    rw [ht.1]; simp only; omega
  · obtain rfl : j = -1 := by omega
    rw [ht.2]; simp only; omega
theorem TimeSpec.step {d : List S51} {i n : Int} {p : Int × Int} (h : TimeSpec d i n p) (hn : 0 ≤ n) (hk : isK d n = true) : TimeSpec d i (n + 1) (mx p.1 (tlo d n i), mn p.2 (thi d n i)) := by
  rw [mx_max, mn_min]
  refine ⟨fun j h1 h2 h3 => ?_, ?_, fun j h1 h2 h3 => ?_, ?_⟩
  · rcases Int.lt_or_le j n with q | q
    · have := h.lo j h1 q h3; simp only; omega
    · obtain rfl : j = n := by omega
      simp only; omega
  · obtain ⟨j, a1, a2, a3, a4⟩ := h.lo_
    by_cases q : tlo d n i ≤ p.1
    · exact ⟨j, a1, by omega, a3, by simp only; omega⟩
    · exact ⟨n, by omega, by omega, hk, by simp only; omega⟩
  · rcases Int.lt_or_le j n with q | q
    · have := h.hi j h1 q h3; simp only; omega
    · obtain rfl : j = n := by omega
      simp only; omega
  · obtain ⟨j, a1, a2, a3, a4⟩ := h.hi_
    by_cases q : p.2 ≤ thi d n i
    · exact ⟨j, a1, by omega, a3, by simp only; omega⟩
    · exact ⟨n, by omega, by omega, hk, by simp only; omega⟩
theorem TimeSpec.skip {d : List S51} {i n : Int} {p : Int × Int} (h : TimeSpec d i n p) (hk : isK d n = false) : TimeSpec d i (n + 1) p := by
  have key : ∀ j, j < n + 1 → isK d j = true → j < n := fun j h1 h2 => by
    rcases Int.lt_or_le j n with q | q
    · exact q
    · obtain rfl : j = n := by omega
      rw [hk] at h2; cases h2
  refine ⟨fun j h1 h2 h3 => h.lo j h1 (key j h2 h3) h3, ?_, fun j h1 h2 h3 => h.hi j h1 (key j h2 h3) h3, ?_⟩
  · obtain ⟨j, a1, a2, a3, a4⟩ := h.lo_; exact ⟨j, a1, by omega, a3, a4⟩
  · obtain ⟨j, a1, a2, a3, a4⟩ := h.hi_; exact ⟨j, a1, by omega, a3, a4⟩
theorem narAll_spec {d : List S51} (hv : vd d = true) {i : Int} (hi : 0 ≤ i) (hi' : i < d.length) : ∀ n : Nat, n ≤ d.length → TimeSpec d i n (narAll d i (upK d false (n + 1)))
  | 0, _ => by
    have hr : -1 ≤ idx d false 0 ∧ idx d false 0 < d.length ∧ isK d (idx d false 0) = true := ⟨by show (-1 : Int) ≤ -1; omega, by show (-1 : Int) < _; omega, rfl⟩
    have e : narAll d i (upK d false (0 + 1)) = (SL d i, SH d i) := by
      rw [upK_yes hr, narAll_snoc]
      have e0 : upK d false 0 = [] := rfl
      have ei : idx d false 0 = -1 := rfl
      rw [e0]
      unfold nar narAll
      simp only [ei, List.foldl_nil, (tl_beg d hi).1, (tl_beg d hi).2]
      have b := SL_bound hv i
      rw [mx_max, mn_min]
      exact Prod.ext (by simp only; omega) (by simp only; omega)
    rw [e]
    exact TimeSpec.beg hi
  | n + 1, hn => by
    have ih := narAll_spec hv hi hi' n (by omega)
    have ei : idx d false (n + 1) = (n : Int) := by show ((n + 1 : Nat) : Int) - 1 = n; omega
    by_cases hK : isK d (idx d false (n + 1)) = true
    · have hr : -1 ≤ idx d false (n + 1) ∧ idx d false (n + 1) < d.length ∧ isK d (idx d false (n + 1)) = true := ⟨by omega, by omega, hK⟩
      rw [upK_yes hr, narAll_snoc]
      unfold nar
      simp only [ei]
      rw [ei] at hK
      exact ih.step (by omega) hK
    · rw [upK_no (Bool.eq_false_iff.2 hK)]
      rw [ei] at hK
      exact ih.skip (Bool.eq_false_iff.2 hK)
theorem timeOf_spec {d : List S51} (hv : vd d = true) {i : Int} (hi : 0 ≤ i) (hi' : i < d.length) : TimeSpec d i d.length (timeOf d i) := narAll_spec hv hi hi' d.length (Nat.le_refl _)
theorem readyE_zero {d : List S51} (h : readyE d = 0) : vd d = true ∧ (clashOf d).2.2 = false := by
  unfold readyE at h
  by_cases hv : vd d = true
  · rw [if_pos hv] at h
    cases hc : (clashOf d).2.2 with
    | false => exact ⟨hv, rfl⟩
    | true => rw [hc, if_pos rfl] at h; omega
  · rw [if_neg hv] at h; omega
theorem time_bound {d : List S51} (hv : vd d = true) {i : Int} (hi : 0 ≤ i) (hi' : i < d.length) : -33554432 ≤ (timeOf d i).1 ∧ (timeOf d i).1 ≤ 33554432 ∧ -33554432 ≤ (timeOf d i).2 ∧ (timeOf d i).2 ≤ 33554432 := by
  have hs := timeOf_spec hv hi hi'
  obtain ⟨j, a1, a2, a3, a4⟩ := hs.lo_
  obtain ⟨q, b1, b2, b3, b4⟩ := hs.hi_
  have h1 := tell_bound hv a2 i
  have h2 := tell_bound hv b2 i
  omega
def timeB (d : List S51) (a : Int) : Int × Int := if 0 ≤ a then timeOf d a else (0, 0)
def betweenOf (d : List S51) (a b : Int) : Int × Int := (mx (SL d b - SL d a) ((timeOf d b).1 - (timeB d a).2), mn (SH d b - SH d a) ((timeOf d b).2 - (timeB d a).1))
def betweenErr (d : List S51) (a b : Int) : Int := if vd d = true then (if -1 ≤ a ∧ a < d.length ∧ 0 ≤ b ∧ b < d.length ∧ a < b then (if (clashOf d).2.2 = true then 31 else 0) else 1) else 40
theorem betweenErr_arg {d : List S51} (hv : vd d = true) {a b : Int} (h : ¬ (-1 ≤ a ∧ a < d.length ∧ 0 ≤ b ∧ b < d.length ∧ a < b)) : betweenErr d a b = 1 := by
  unfold betweenErr
  rw [if_pos hv, if_neg h]
theorem betweenErr_yes {d : List S51} (hv : vd d = true) {a b : Int} (h : -1 ≤ a ∧ a < d.length ∧ 0 ≤ b ∧ b < d.length ∧ a < b) : betweenErr d a b = if (clashOf d).2.2 = true then 31 else 0 := by
  unfold betweenErr
  rw [if_pos hv, if_pos h]
end Go.Proofs.YtgiihjcpgjpkcaaDoor.Q
end
section
namespace Go.Proofs.YtgiihjcpgjpkcaaDoor.Q
open Go.RowKit Go.Proofs.YtgiihjcpgjpkcaaDoorW.PrintWords Go.Proofs.YtgiihjcpgjpkcaaDoorW.PrintLast Go.Proofs.YtgiihjcpgjpkcaaDoorW.PrintMore
set_option linter.unusedVariables false
set_option linter.unusedSimpArgs false
structure Chain where
  n : Nat
  L : Nat → Int
  H : Nat → Int
  K : Nat → Prop
  a : Nat → Int
  b : Nat → Int
namespace Chain
variable (c : Chain)
structure Ok : Prop where
  step : ∀ p, p < c.n → c.L p ≤ c.L (p + 1) ∧ c.L (p + 1) - c.L p ≤ c.H (p + 1) - c.H p
  known0 : c.K 0
  a0 : c.a 0 = 0
  b0 : c.b 0 = 0
  ab : ∀ p, p ≤ c.n → c.K p → c.a p ≤ c.b p
def tl (k i : Nat) : Int := if k ≤ i then c.a k + (c.L i - c.L k) else c.a k - (c.H k - c.H i)
def th (k i : Nat) : Int := if k ≤ i then c.b k + (c.H i - c.H k) else c.b k - (c.L k - c.L i)
structure Allows (m : Nat → Int) : Prop where
  zero : m 0 = 0
  step : ∀ p, p < c.n → c.L (p + 1) - c.L p ≤ m (p + 1) - m p ∧ m (p + 1) - m p ≤ c.H (p + 1) - c.H p
  at_ : ∀ p, p ≤ c.n → c.K p → c.a p ≤ m p ∧ m p ≤ c.b p
def Cannot (p q : Nat) : Prop := c.K p ∧ c.K q ∧ (c.b q < c.a p + (c.L q - c.L p) ∨ c.b p + (c.H q - c.H p) < c.a q)
def NoClash : Prop := ∀ p q, p < q → q ≤ c.n → ¬ c.Cannot p q
structure IsLo (i : Nat) (t : Int) : Prop where
  ge : ∀ k, k ≤ c.n → c.K k → c.tl k i ≤ t
  some_ : ∃ k, k ≤ c.n ∧ c.K k ∧ c.tl k i = t
structure IsHi (i : Nat) (t : Int) : Prop where
  le : ∀ k, k ≤ c.n → c.K k → t ≤ c.th k i
  some_ : ∃ k, k ≤ c.n ∧ c.K k ∧ c.th k i = t
variable {c}
theorem Ok.way (h : c.Ok) : ∀ d p, p + d ≤ c.n → c.L p ≤ c.L (p + d) ∧ c.L (p + d) - c.L p ≤ c.H (p + d) - c.H p
  | 0, p, _ => by simp
  | d + 1, p, hp => by
    have ih := Ok.way h d p (by omega)
    have hs := h.step (p + d) (by omega)
    rw [show p + (d + 1) = p + d + 1 from by omega]
    omega
theorem Ok.ways (h : c.Ok) {p q : Nat} (hpq : p ≤ q) (hq : q ≤ c.n) : c.L p ≤ c.L q ∧ c.L q - c.L p ≤ c.H q - c.H p := by
  have := h.way (q - p) p (by omega)
  rwa [show p + (q - p) = q from by omega] at this
theorem Allows.way {m : Nat → Int} (h : c.Allows m) : ∀ d p, p + d ≤ c.n → c.L (p + d) - c.L p ≤ m (p + d) - m p ∧ m (p + d) - m p ≤ c.H (p + d) - c.H p
  | 0, p, _ => by simp
  | d + 1, p, hp => by
    have ih := Allows.way h d p (by omega)
    have hs := h.step (p + d) (by omega)
    rw [show p + (d + 1) = p + d + 1 from by omega]
    omega
theorem Allows.ways {m : Nat → Int} (h : c.Allows m) {p q : Nat} (hpq : p ≤ q) (hq : q ≤ c.n) : c.L q - c.L p ≤ m q - m p ∧ m q - m p ≤ c.H q - c.H p := by
  have := h.way (q - p) p (by omega)
  rwa [show p + (q - p) = q from by omega] at this
theorem tl_le {k i : Nat} (h : k ≤ i) : c.tl k i = c.a k + (c.L i - c.L k) := if_pos h
theorem tl_gt {k i : Nat} (h : ¬ k ≤ i) : c.tl k i = c.a k - (c.H k - c.H i) := if_neg h
theorem th_le {k i : Nat} (h : k ≤ i) : c.th k i = c.b k + (c.H i - c.H k) := if_pos h
theorem th_gt {k i : Nat} (h : ¬ k ≤ i) : c.th k i = c.b k - (c.L k - c.L i) := if_neg h
theorem Allows.told {m : Nat → Int} (h : c.Allows m) {k i : Nat} (hk : k ≤ c.n) (hi : i ≤ c.n) (hK : c.K k) : c.tl k i ≤ m i ∧ m i ≤ c.th k i := by
  have hat := h.at_ k hk hK
  by_cases hki : k ≤ i
  · rw [tl_le hki, th_le hki]
    have := h.ways hki hi
    omega
  · rw [tl_gt hki, th_gt hki]
    have := h.ways (p := i) (q := k) (by omega) hk
    omega
theorem Allows.lo {m : Nat → Int} (h : c.Allows m) {i : Nat} {t : Int} (hi : i ≤ c.n) (ht : c.IsLo i t) : t ≤ m i := by
  obtain ⟨k, hk, hK, e⟩ := ht.some_
  have := (h.told hk hi hK).1
  omega
theorem Allows.hi {m : Nat → Int} (h : c.Allows m) {i : Nat} {t : Int} (hi : i ≤ c.n) (ht : c.IsHi i t) : m i ≤ t := by
  obtain ⟨k, hk, hK, e⟩ := ht.some_
  have := (h.told hk hi hK).2
  omega
theorem NoClash.tells (h : c.NoClash) (ok : c.Ok) {k i : Nat} (hk : k ≤ c.n) (hi : i ≤ c.n) (hK : c.K k) (hKi : c.K i) : c.tl k i ≤ c.b i ∧ c.a i ≤ c.th k i := by
  rcases Nat.lt_trichotomy k i with hlt | heq | hgt
  · have := h k i hlt hi
    rw [tl_le (by omega), th_le (by omega)]
    unfold Cannot at this
    constructor
    · exact Int.not_lt.1 fun hc => this ⟨hK, hKi, .inl hc⟩
    · exact Int.not_lt.1 fun hc => this ⟨hK, hKi, .inr hc⟩
  · subst heq
    have := ok.ab k hk hK
    rw [tl_le (Nat.le_refl _), th_le (Nat.le_refl _)]
    omega
  · have := h i k hgt hk
    rw [tl_gt (by omega), th_gt (by omega)]
    unfold Cannot at this
    constructor
    · have := Int.not_lt.1 fun hc => this ⟨hKi, hK, .inr hc⟩
      omega
    · have := Int.not_lt.1 fun hc => this ⟨hKi, hK, .inl hc⟩
      omega
theorem IsLo.unique {i : Nat} {t u : Int} (h : c.IsLo i t) (g : c.IsLo i u) : t = u := by
  obtain ⟨k, hk, hK, e⟩ := h.some_
  obtain ⟨j, hj, hJ, f⟩ := g.some_
  have := h.ge j hj hJ
  have := g.ge k hk hK
  omega
theorem IsHi.unique {i : Nat} {t u : Int} (h : c.IsHi i t) (g : c.IsHi i u) : t = u := by
  obtain ⟨k, hk, hK, e⟩ := h.some_
  obtain ⟨j, hj, hJ, f⟩ := g.some_
  have := h.le j hj hJ
  have := g.le k hk hK
  omega
theorem NoClash.early (h : c.NoClash) (ok : c.Ok) {e : Nat → Int} (he : ∀ i, i ≤ c.n → c.IsLo i (e i)) : c.Allows e := by
  refine ⟨?_, ?_, ?_⟩
  · obtain ⟨k, hk, hK, e1⟩ := (he 0 (by omega)).some_
    have h1 := (he 0 (by omega)).ge 0 (by omega) ok.known0
    rw [tl_le (Nat.le_refl _)] at h1
    have h2 := (h.tells ok hk (Nat.zero_le _) hK ok.known0).1
    have := ok.a0
    have := ok.b0
    omega
  · intro p hp
    have hs := ok.step p hp
    have g1 := he p (by omega)
    have g2 := he (p + 1) (by omega)
    obtain ⟨k, hk, hK, e1⟩ := g1.some_
    obtain ⟨j, hj, hJ, e2⟩ := g2.some_
    have u1 := g2.ge k hk hK
    have u2 := g1.ge j hj hJ
    constructor
    · by_cases hkp : k ≤ p
      · rw [tl_le hkp] at e1
        rw [tl_le (by omega)] at u1
        omega
      · by_cases hkp' : k ≤ p + 1
        · obtain rfl : k = p + 1 := by omega
          rw [tl_gt hkp] at e1
          rw [tl_le hkp'] at u1
          omega
        · rw [tl_gt hkp] at e1
          rw [tl_gt hkp'] at u1
          omega
    · by_cases hjp : j ≤ p
      · rw [tl_le (by omega)] at e2
        rw [tl_le hjp] at u2
        omega
      · by_cases hjp' : j ≤ p + 1
        · obtain rfl : j = p + 1 := by omega
          rw [tl_le hjp'] at e2
          rw [tl_gt hjp] at u2
          omega
        · rw [tl_gt hjp'] at e2
          rw [tl_gt hjp] at u2
          omega
  · intro p hp hK
    have g := he p hp
    constructor
    · have := g.ge p hp hK
      rw [tl_le (Nat.le_refl _)] at this
      omega
    · obtain ⟨k, hk, hKk, e1⟩ := g.some_
      have := (h.tells ok hk hp hKk hK).1
      omega
theorem NoClash.late (h : c.NoClash) (ok : c.Ok) {e : Nat → Int} (he : ∀ i, i ≤ c.n → c.IsHi i (e i)) : c.Allows e := by
  refine ⟨?_, ?_, ?_⟩
  · obtain ⟨k, hk, hK, e1⟩ := (he 0 (by omega)).some_
    have h1 := (he 0 (by omega)).le 0 (by omega) ok.known0
    rw [th_le (Nat.le_refl _)] at h1
    have h2 := (h.tells ok hk (Nat.zero_le _) hK ok.known0).2
    have := ok.a0
    have := ok.b0
    omega
  · intro p hp
    have hs := ok.step p hp
    have g1 := he p (by omega)
    have g2 := he (p + 1) (by omega)
    obtain ⟨k, hk, hK, e1⟩ := g1.some_
    obtain ⟨j, hj, hJ, e2⟩ := g2.some_
    have u1 := g2.le k hk hK
    have u2 := g1.le j hj hJ
    constructor
    · by_cases hjp : j ≤ p
      · rw [th_le (by omega)] at e2
        rw [th_le hjp] at u2
        omega
      · by_cases hjp' : j ≤ p + 1
        · obtain rfl : j = p + 1 := by omega
          rw [th_le hjp'] at e2
          rw [th_gt hjp] at u2
          omega
        · rw [th_gt hjp'] at e2
          rw [th_gt hjp] at u2
          omega
    · by_cases hkp : k ≤ p
      · rw [th_le hkp] at e1
        rw [th_le (by omega)] at u1
        omega
      · by_cases hkp' : k ≤ p + 1
        · obtain rfl : k = p + 1 := by omega
          rw [th_gt hkp] at e1
          rw [th_le hkp'] at u1
          omega
        · rw [th_gt hkp] at e1
          rw [th_gt hkp'] at u1
          omega
  · intro p hp hK
    have g := he p hp
    constructor
    · obtain ⟨k, hk, hKk, e1⟩ := g.some_
      have := (h.tells ok hk hp hKk hK).2
      omega
    · have := g.le p hp hK
      rw [th_le (Nat.le_refl _)] at this
      omega
end Chain
namespace Chain
variable {c : Chain}
theorem Allows.min {m w : Nat → Int} (h : c.Allows m) (g : c.Allows w) : c.Allows (fun i => Min.min (m i) (w i)) := by
  refine ⟨?_, ?_, ?_⟩
  · show Min.min (m 0) (w 0) = 0
    rw [h.zero, g.zero]; rfl
  · intro p hp
    have := h.step p hp
    have := g.step p hp
    show c.L (p + 1) - c.L p ≤ Min.min (m (p + 1)) (w (p + 1)) - Min.min (m p) (w p) ∧ Min.min (m (p + 1)) (w (p + 1)) - Min.min (m p) (w p) ≤ _
    omega
  · intro p hp hK
    have := h.at_ p hp hK
    have := g.at_ p hp hK
    show _ ≤ Min.min (m p) (w p) ∧ Min.min (m p) (w p) ≤ _
    omega
theorem Allows.max {m w : Nat → Int} (h : c.Allows m) (g : c.Allows w) : c.Allows (fun i => Max.max (m i) (w i)) := by
  refine ⟨?_, ?_, ?_⟩
  · show Max.max (m 0) (w 0) = 0
    rw [h.zero, g.zero]; rfl
  · intro p hp
    have := h.step p hp
    have := g.step p hp
    show c.L (p + 1) - c.L p ≤ Max.max (m (p + 1)) (w (p + 1)) - Max.max (m p) (w p) ∧ Max.max (m (p + 1)) (w (p + 1)) - Max.max (m p) (w p) ≤ _
    omega
  · intro p hp hK
    have := h.at_ p hp hK
    have := g.at_ p hp hK
    show _ ≤ Max.max (m p) (w p) ∧ Max.max (m p) (w p) ≤ _
    omega
end Chain
def chainOf (d : List S51) : Chain where
  n := d.length
  L p := SL d ((p : Int) - 1)
  H p := SH d ((p : Int) - 1)
  K p := isK d ((p : Int) - 1) = true
  a p := (atOf d ((p : Int) - 1)).f0
  b p := (atOf d ((p : Int) - 1)).f1
def tmP (d : List S51) (p : Nat) : Int × Int := timeB d ((p : Int) - 1)
end Go.Proofs.YtgiihjcpgjpkcaaDoor.Q
end
section
namespace Go.Proofs.YtgiihjcpgjpkcaaDoor.Q
open Go.RowKit Go.Proofs.YtgiihjcpgjpkcaaDoorW.PrintWords Go.Proofs.YtgiihjcpgjpkcaaDoorW.PrintLast Go.Proofs.YtgiihjcpgjpkcaaDoorW.PrintMore
set_option linter.unusedVariables false
set_option linter.unusedSimpArgs false
theorem few_nil (d : List S51) (k : Nat) (hk : 2 ≤ k) : waterhourlaw04_few.f k d [] = some (decide ((d.length : Int) ≤ 100)) := by
  obtain ⟨k, rfl⟩ : ∃ m, k = m + 1 := ⟨k - 1, by omega⟩
  unfold waterhourlaw04_few.f
  simp [waterhourlaw04_few.l0]
theorem between_eq {d : List S51} (hv : vd d = true) {a b : Int} (ha : -1 ≤ a) (hab : a < b) (hb : b < d.length) (k : Nat) (hk : 100 ≤ k) : refill_between.f k d a b = some (betweenOf d a b) := by
  unfold refill_between.f betweenOf timeB
  have t1 : refill_time.f d b = some (timeOf d b) := by unfold refill_time.f; rw [if_pos ⟨hv, by omega, hb⟩]
  have tb := time_bound hv (i := b) (by omega) hb
  rw [behind_eq hv ha (by omega) hb k (by omega), t1]
  simp only [Option.bind_some]
  by_cases h : a ≥ 0
  · have t2 : refill_time.f d a = some (timeOf d a) := by unfold refill_time.f; rw [if_pos ⟨hv, by omega, by omega⟩]
    have ta := time_bound hv (i := a) h (by omega)
    rw [if_pos h, t2, if_pos h]
    simp only [Option.bind_some]
    congr 2 <;> congr 1 <;> (unfold wrap64; omega)
  · rw [if_neg h, if_neg h]
    simp only [Int.sub_zero]
    congr 2 <;> congr 1 <;> (unfold wrap64; omega)
end Go.Proofs.YtgiihjcpgjpkcaaDoor.Q
end
section
namespace Go.Proofs.YtgiihjcpgjpkcaaDoor.Q
open Go.RowKit Go.Proofs.YtgiihjcpgjpkcaaDoorW.PrintWords Go.Proofs.YtgiihjcpgjpkcaaDoorW.PrintLast Go.Proofs.YtgiihjcpgjpkcaaDoorW.PrintMore
set_option linter.unusedVariables false
set_option linter.unusedSimpArgs false
theorem rd_at {d : List S51} {n : Nat} (h : n < d.length) : rd_T51 d (n : Int) = d[n] := by
  unfold rd_T51
  rw [Int.toNat_natCast, List.getD_eq_getElem?_getD, List.getElem?_eq_getElem h]
  rfl
theorem rd_set_ne {l : List S51} {i j : Nat} (x : S51) (h : i ≠ j) : rd_T51 (l.set i x) (j : Int) = rd_T51 l (j : Int) := by
  unfold rd_T51
  rw [Int.toNat_natCast, List.getD_eq_getElem?_getD, List.getD_eq_getElem?_getD, List.getElem?_set_ne h]
theorem withAt_length (d : List S51) (i : Int) (u : Int × Int) : (withAt d i u).length = d.length := by unfold withAt; rw [List.length_set]
end Go.Proofs.YtgiihjcpgjpkcaaDoor.Q
end
section
namespace Go.Proofs.YtgiihjcpgjpkcaaDoor.Q
open Go.RowKit Go.Proofs.YtgiihjcpgjpkcaaDoorW.PrintWords Go.Proofs.YtgiihjcpgjpkcaaDoorW.PrintLast Go.Proofs.YtgiihjcpgjpkcaaDoorW.PrintMore
set_option linter.unusedVariables false
set_option linter.unusedSimpArgs false
def closedOf (d : List S51) : List S51 := (List.range d.length).map fun (j : Nat) => ⟨⟨(betweenOf d ((j : Int) - 1) (j : Int)).1, (betweenOf d ((j : Int) - 1) (j : Int)).2⟩, ⟨(timeOf d (j : Int)).1, (timeOf d (j : Int)).2⟩⟩
def closedTo (d : List S51) (n : Nat) : List S51 := (List.range n).map fun (j : Nat) => ⟨⟨(betweenOf d ((j : Int) - 1) (j : Int)).1, (betweenOf d ((j : Int) - 1) (j : Int)).2⟩, ⟨(timeOf d (j : Int)).1, (timeOf d (j : Int)).2⟩⟩
theorem closedTo_succ (d : List S51) (n : Nat) : closedTo d (n + 1) = closedTo d n ++ [⟨⟨(betweenOf d ((n : Int) - 1) (n : Int)).1, (betweenOf d ((n : Int) - 1) (n : Int)).2⟩, ⟨(timeOf d (n : Int)).1, (timeOf d (n : Int)).2⟩⟩] := by simp [closedTo, List.range_succ]
theorem closedTo_length (d : List S51) (n : Nat) : (closedTo d n).length = n := by simp [closedTo]
theorem closedOf_length (d : List S51) : (closedOf d).length = d.length := by simp [closedOf]
theorem pClosed_l0 {d : List S51} (hv : vd d = true) : ∀ (m k n : Nat), d.length = n + m → m + 200 ≤ k → refill_Closed.l0 k d (closedTo d n) d.length n = some (closedOf d, 0)
  | 0, k, n, hn, hk => by
    obtain ⟨k, rfl⟩ : ∃ m, k = m + 1 := ⟨k - 1, by omega⟩
    simp only [refill_Closed.l0]
    obtain rfl : d.length = n := by omega
    rw [if_neg (by omega)]
    rfl
  | m + 1, k, n, hn, hk => by
    obtain ⟨k, rfl⟩ : ∃ m, k = m + 1 := ⟨k - 1, by omega⟩
    have hl32 := (vd_iff.1 hv).2.1
    have ih := pClosed_l0 hv m k (n + 1) (by omega) (by omega)
    have ht : refill_time.f d (n : Int) = some (timeOf d (n : Int)) := by unfold refill_time.f; rw [if_pos ⟨hv, by omega, by omega⟩]
    simp only [refill_Closed.l0]
    rw [if_pos (by omega), show wrap64 ((n : Int) - 1) = (n : Int) - 1 from by unfold wrap64; omega, between_eq hv (by omega) (by omega) (by omega) k (by omega), ht, show wrap64 ((n : Int) + 1) = ((n + 1 : Nat) : Int) from by unfold wrap64; omega]
    simp only [Option.bind_some]
    rw [if_pos (by rw [closedTo_length]; omega), ← closedTo_succ]
    exact ih
theorem pClosed_eq (d : List S51) (k : Nat) (hk : 2000 ≤ k) : refill_Closed.f k d = some (if readyE d = 0 then closedOf d else [], readyE d) := by
  unfold refill_Closed.f
  rw [ready_E d k (by omega)]
  simp only [Option.bind_some]
  by_cases h : readyE d = 0
  · obtain ⟨hv, hc⟩ := readyE_zero h
    have hl32 := (vd_iff.1 hv).2.1
    rw [if_pos h, if_pos h, h]
    exact pClosed_l0 hv d.length k 0 (by omega) (by omega)
  · rw [if_neg h, if_neg h]
structure StepFacts (d : List S51) (p : Nat) : Prop where
  ev : 0 ≤ (rd_T51 d (p : Int)).f0.f0 ∧ (rd_T51 d (p : Int)).f0.f0 ≤ (rd_T51 d (p : Int)).f0.f1 ∧ (rd_T51 d (p : Int)).f0.f1 ≤ 524288
  early : (rd_T51 d (p : Int)).f0.f0 ≤ (tmP d (p + 1)).1 - (tmP d p).1 ∧ (tmP d (p + 1)).1 - (tmP d p).1 ≤ (rd_T51 d (p : Int)).f0.f1
  late : (rd_T51 d (p : Int)).f0.f0 ≤ (tmP d (p + 1)).2 - (tmP d p).2 ∧ (tmP d (p + 1)).2 - (tmP d p).2 ≤ (rd_T51 d (p : Int)).f0.f1
  le0 : (tmP d p).1 ≤ (tmP d p).2
  le1 : (tmP d (p + 1)).1 ≤ (tmP d (p + 1)).2
  rng : 0 ≤ (tmP d (p + 1)).1 ∧ (tmP d (p + 1)).2 ≤ 16777216
end Go.Proofs.YtgiihjcpgjpkcaaDoor.Q
end
section
namespace Go.Proofs.YtgiihjcpgjpkcaaDoor.Q
open Go.RowKit Go.Proofs.YtgiihjcpgjpkcaaDoorW.PrintWords Go.Proofs.YtgiihjcpgjpkcaaDoorW.PrintLast Go.Proofs.YtgiihjcpgjpkcaaDoorW.PrintMore
set_option linter.unusedVariables false
set_option linter.unusedSimpArgs false
theorem minutes_eq (a b most : Int) : waterhourref04_minutes.f a b most = some (decide (0 ≤ a ∧ a ≤ b ∧ b ≤ most)) := by
  unfold waterhourref04_minutes.f
  by_cases h1 : a ≥ 0
  · rw [if_pos h1]
    by_cases h2 : a ≤ b
    · rw [if_pos h2]
      by_cases h3 : b ≤ most
      · rw [decide_eq_true h3, decide_eq_true (show _ ∧ _ ∧ _ from ⟨h1, h2, h3⟩)]
      · rw [decide_eq_false h3, decide_eq_false (fun h => h3 h.2.2)]
    · rw [if_neg h2, decide_eq_false (fun h => h2 h.2.1)]
  · rw [if_neg h1, decide_eq_false (fun h => h1 h.1)]
theorem Event_eq (d : List S51) (i least : Int) : waterhourref04_Event.f d i least = some (decide (least ≤ i ∧ i < d.length)) := by
  unfold waterhourref04_Event.f
  by_cases h1 : i ≥ least
  · rw [if_pos h1]
    by_cases h2 : i < d.length
    · rw [decide_eq_true h2, decide_eq_true (show _ ∧ _ from ⟨h1, h2⟩)]
    · rw [decide_eq_false h2, decide_eq_false (fun h => h2 h.2)]
  · rw [if_neg h1, decide_eq_false (fun h => h1 h.1)]
theorem Valid_l0 (d : List S51) (hl : d.length ≤ 32) : ∀ (m k j : Nat), d.length = j + m → m < k → waterhourref04_Valid.l0 k d j = some ((d.drop j).all evOk)
  | 0, k, j, hj, hk => by
    obtain ⟨k, rfl⟩ : ∃ m, k = m + 1 := ⟨k - 1, by omega⟩
    simp only [waterhourref04_Valid.l0]
    rw [if_neg (by omega), List.drop_of_length_le (by omega)]
    rfl
  | m + 1, k, j, hj, hk => by
    obtain ⟨k, rfl⟩ : ∃ m, k = m + 1 := ⟨k - 1, by omega⟩
    have ih := Valid_l0 d hl m k (j + 1) (by omega) (by omega)
    have w1 : wrap64 ((j : Int) + 1) = ((j + 1 : Nat) : Int) := by unfold wrap64; omega
    simp only [waterhourref04_Valid.l0]
    rw [if_pos (by omega), if_pos (by omega), rd_drop d j (by omega), List.all_cons]
    simp only [minutes_eq, Option.bind_some]
    rw [w1, ih]
    generalize rd_T51 d (j : Int) = e
    by_cases h1 : 0 ≤ e.f0.f0 ∧ e.f0.f0 ≤ e.f0.f1 ∧ e.f0.f1 ≤ 524288
    · rw [if_pos (decide_eq_true h1)]
      by_cases h3 : 0 ≤ e.f1.f0 ∧ e.f1.f0 ≤ e.f1.f1 ∧ e.f1.f1 ≤ 16777216
      · have he : evOk e = true := evOk_iff.2 ⟨h1.1, h1.2.1, h1.2.2, .inl h3⟩
        rw [if_pos (decide_eq_true h3), he, Bool.true_and]
      · rw [if_neg (by simpa using h3)]
        by_cases h4 : e.f1.f0 = 1
        · rw [if_pos h4]
          by_cases h5 : e.f1.f1 = 0
          · have he : evOk e = true := evOk_iff.2 ⟨h1.1, h1.2.1, h1.2.2, .inr ⟨h4, h5⟩⟩
            simp [h5, he]
          · have he : evOk e = false := Bool.eq_false_iff.2 fun h => (evOk_iff.1 h).2.2.2.elim h3 (fun q => h5 q.2)
            simp [h5, he]
        · have he : evOk e = false := Bool.eq_false_iff.2 fun h => (evOk_iff.1 h).2.2.2.elim h3 (fun q => h4 q.1)
          simp [h4, he]
    · have he : evOk e = false := Bool.eq_false_iff.2 fun h => h1 ⟨(evOk_iff.1 h).1, (evOk_iff.1 h).2.1, (evOk_iff.1 h).2.2.1⟩
      rw [if_neg (by simpa using h1), he, Bool.false_and]
theorem Valid_eq (d : List S51) (k : Nat) (hk : 40 ≤ k) : waterhourref04_Valid.f k d = some (vd d) := by
  obtain ⟨k, rfl⟩ : ∃ m, k = m + 1 := ⟨k - 1, by omega⟩
  unfold waterhourref04_Valid.f
  by_cases h1 : (d.length : Int) < 1
  · rw [if_pos h1]
    simp only [waterhourref04_Valid.j0, if_true]
    have : vd d = false := Bool.eq_false_iff.2 fun h => by have := (vd_iff.1 h).1; omega
    rw [this]
  · rw [if_neg h1]
    by_cases h2 : (d.length : Int) > 32
    · rw [decide_eq_true h2]
      simp only [waterhourref04_Valid.j0, if_true]
      have : vd d = false := Bool.eq_false_iff.2 fun h => by have := (vd_iff.1 h).2.1; omega
      rw [this]
    · rw [decide_eq_false h2]
      simp only [waterhourref04_Valid.j0, Bool.false_eq_true, if_false]
      have := Valid_l0 d (by omega) d.length k 0 (by omega) (by omega)
      rw [Int.natCast_zero] at this
      rw [this, List.drop_zero]
      congr 1
      rw [Bool.eq_iff_iff, vd_iff, List.all_eq_true]
      exact ⟨fun h => ⟨by omega, by omega, h⟩, fun h => h.2.2⟩
end Go.Proofs.YtgiihjcpgjpkcaaDoor.Q
end
section
namespace Go.Proofs.YtgiihjcpgjpkcaaDoor.Q
open Go.RowKit Go.Proofs.YtgiihjcpgjpkcaaDoorW.PrintWords Go.Proofs.YtgiihjcpgjpkcaaDoorW.PrintLast Go.Proofs.YtgiihjcpgjpkcaaDoorW.PrintMore
set_option linter.unusedVariables false
set_option linter.unusedSimpArgs false
theorem rknown_eq {d : List S51} (hv : vd d = true) {i : Int} (hi : i < d.length) : waterhourref04_known.f d i = some ((atOf d i).f0, (atOf d i).f1, isK d i) := by
  unfold waterhourref04_known.f
  by_cases h : i < 0
  · rw [if_pos h]; simp [atOf, isK, h]
  · have hb := (atOf_bound hv hi).2.2.2.2
    rw [if_neg h, if_pos (by omega), if_pos hi]
    simp only [waterhourref04_Known.f, Option.bind_some]
    have e : atOf d i = (rd_T51 d i).f1 := if_neg h
    rw [← e]
    congr 3
    rw [Bool.eq_iff_iff, hb, decide_eq_true_eq]
theorem way_l0 {d : List S51} (hv : vd d = true) (a b : Int) (hb : b < d.length) : ∀ (m k j : Nat) (s t : Int), b + 1 = j + m → m < k → s = SL d ((j : Int) - 1) - SL d a → t = SH d ((j : Int) - 1) - SH d a →
    waterhourref04_way.l0 k d b j s t = some (SL d b - SL d a, SH d b - SH d a)
  | 0, k, j, s, t, hj, hk, hs, ht => by
    obtain ⟨k, rfl⟩ : ∃ m, k = m + 1 := ⟨k - 1, by omega⟩
    simp only [waterhourref04_way.l0]
    rw [if_neg (by omega), hs, ht, show (j : Int) - 1 = b from by omega]
  | m + 1, k, j, s, t, hj, hk, hs, ht => by
    obtain ⟨k, rfl⟩ : ∃ m, k = m + 1 := ⟨k - 1, by omega⟩
    have hlt : j < d.length := by omega
    have hs1 := SL_succ d j hlt
    have b0 := SL_bound hv a
    have b1 := SL_bound hv (j : Int)
    have b2 := SL_bound hv ((j : Int) - 1)
    simp only [waterhourref04_way.l0]
    rw [if_pos (by omega), if_pos (by omega), if_pos (by omega)]
    have hl32 := (vd_iff.1 hv).2.1
    have w1 : wrap64 ((j : Int) + 1) = ((j + 1 : Nat) : Int) := by unfold wrap64; omega
    have w2 : wrap64 (s + (rd_T51 d (j : Int)).f0.f0) = SL d (j : Int) - SL d a := by unfold wrap64; omega
    have w3 : wrap64 (t + (rd_T51 d (j : Int)).f0.f1) = SH d (j : Int) - SH d a := by unfold wrap64; omega
    rw [w1, w2, w3]
    exact way_l0 hv a b hb m k (j + 1) _ _ (by omega) (by omega) (by rw [show ((j + 1 : Nat) : Int) - 1 = j from by omega]) (by rw [show ((j + 1 : Nat) : Int) - 1 = j from by omega])
theorem way_eq {d : List S51} (hv : vd d = true) {a b : Int} (ha : -1 ≤ a) (hab : a ≤ b) (hb : b < d.length) (k : Nat) (hk : 40 ≤ k) : waterhourref04_way.f k d a b = some (SL d b - SL d a, SH d b - SH d a) := by
  have hl32 := (vd_iff.1 hv).2.1
  have w1 : wrap64 (a + 1) = (((a + 1).toNat : Nat) : Int) := by unfold wrap64; omega
  unfold waterhourref04_way.f
  rw [w1]
  exact way_l0 hv a b hb (b - a).toNat k _ 0 0 (by omega) (by omega) (by rw [show (((a + 1).toNat : Nat) : Int) - 1 = a from by omega]; omega) (by rw [show (((a + 1).toNat : Nat) : Int) - 1 = a from by omega]; omega)
theorem Tells_eq {d : List S51} (hv : vd d = true) {a i : Int} (ha : -1 ≤ a) (ha' : a < d.length) (hi : -1 ≤ i) (hi' : i < d.length) (k : Nat) (hk : 40 ≤ k) :
    waterhourref04_Tells.f k d a i = some (if isK d a = true then (tlo d a i, thi d a i, true) else (0, 0, false)) := by
  have ba := SL_bound hv a
  have bi := SL_bound hv i
  have hx := atOf_bound hv ha'
  unfold waterhourref04_Tells.f tlo thi
  rw [rknown_eq hv ha']
  simp only [Option.bind_some]
  by_cases hk' : isK d a = true
  · rw [if_pos hk', if_pos hk']
    by_cases h : a ≤ i
    · rw [if_pos h, way_eq hv ha h hi' k hk]
      simp only [Option.bind_some, if_pos h]
      congr 2
      · unfold wrap64; omega
      · congr 1; unfold wrap64; omega
    · rw [if_neg h, way_eq hv hi (by omega) ha' k hk]
      simp only [Option.bind_some, if_neg h]
      congr 2
      · unfold wrap64; omega
      · congr 1; unfold wrap64; omega
  · rw [if_neg hk', if_neg hk']
theorem rcannot_eq {d : List S51} (hv : vd d = true) {a b : Int} (ha : -1 ≤ a) (hab : a < b) (hb : b < d.length) (k : Nat) (hk : 40 ≤ k) : waterhourref04_cannot.f k d a b = some (pairC d a b) := by
  unfold waterhourref04_cannot.f pairC cannotB
  rw [Tells_eq hv ha (by omega) (by omega) hb k hk, rknown_eq hv hb]
  simp only [Option.bind_some]
  by_cases h1 : isK d a = true
  · simp only [h1, if_true, Bool.true_and]
    by_cases h2 : isK d b = true
    · simp only [h2, if_true, Bool.true_and]
      unfold tlo thi
      simp only [if_pos (show a ≤ b from by omega)]
      by_cases h3 : (atOf d a).f0 + (SL d b - SL d a) > (atOf d b).f1
      · rw [if_pos h3, decide_eq_true (show (atOf d b).f1 < (atOf d a).f0 + (SL d b - SL d a) from h3), Bool.true_or]
      · rw [if_neg h3, decide_eq_false (show ¬ (atOf d b).f1 < (atOf d a).f0 + (SL d b - SL d a) from h3), Bool.false_or]
    · simp [h2]
  · simp [h1]
theorem Clash_l1 {d : List S51} (hv : vd d = true) (b : Nat) (hb : b < d.length) : ∀ (m k : Nat) (a : Int), a + 1 = m → a < b → m + 60 ≤ k →
    (∃ a' : Int, -1 ≤ a' ∧ a' ≤ a ∧ pairC d a' b = true ∧ (∀ a'' : Int, a' < a'' → a'' ≤ a → pairC d a'' b = false) ∧ waterhourref04_Clash.l1 k d b a = some (a', (b : Int), true, 0)) ∨
    ((∀ a' : Int, -1 ≤ a' → a' ≤ a → pairC d a' b = false) ∧ waterhourref04_Clash.l1 k d b a = waterhourref04_Clash.l0 (k - m - 2) d (wrap64 ((b : Int) + 1)))
  | 0, k, a, ha, hab, hk => by
    obtain ⟨k, rfl⟩ : ∃ m, k = m + 2 := ⟨k - 2, by omega⟩
    have ha1 : a = -1 := by omega
    subst ha1
    simp only [waterhourref04_Clash.l1]
    rw [if_pos (by omega), rcannot_eq hv (by omega) hab (by omega) (k + 1) (by omega)]
    simp only [Option.bind_some]
    by_cases hp : pairC d (-1) b = true
    · rw [if_pos hp]
      exact .inl ⟨-1, by omega, by omega, hp, fun a'' h1 h2 => by omega, rfl⟩
    · rw [if_neg hp, if_neg (by unfold wrap64; omega)]
      exact .inr ⟨fun a' h1 h2 => by obtain rfl : a' = -1 := by omega
                                     exact Bool.eq_false_iff.2 hp, rfl⟩
  | m + 1, k, a, ha, hab, hk => by
    obtain ⟨k, rfl⟩ : ∃ m, k = m + 1 := ⟨k - 1, by omega⟩
    have hl32 := (vd_iff.1 hv).2.1
    simp only [waterhourref04_Clash.l1]
    rw [if_pos (by omega), rcannot_eq hv (by omega) hab (by omega) k (by omega)]
    simp only [Option.bind_some]
    by_cases hp : pairC d a b = true
    · rw [if_pos hp]
      exact .inl ⟨a, by omega, by omega, hp, fun a'' h1 h2 => by omega, rfl⟩
    · rw [if_neg hp, show wrap64 (a - 1) = a - 1 from by unfold wrap64; omega]
      rcases Clash_l1 hv b hb m k (a - 1) (by omega) (by omega) (by omega) with ⟨a', q1, q2, q3, q4, q5⟩ | ⟨q1, q2⟩
      · refine .inl ⟨a', q1, by omega, q3, fun a'' h1 h2 => ?_, q5⟩
        rcases Int.lt_or_le a'' a with h | h
        · exact q4 a'' h1 (by omega)
        · obtain rfl : a'' = a := by omega
          exact Bool.eq_false_iff.2 hp
      · refine .inr ⟨fun a' h1 h2 => ?_, ?_⟩
        · rcases Int.lt_or_le a' a with h | h
          · exact q1 a' h1 (by omega)
          · obtain rfl : a' = a := by omega
            exact Bool.eq_false_iff.2 hp
        · rw [q2, show k - m - 2 = k + 1 - (m + 1) - 2 from by omega]
theorem Clash_l0 {d : List S51} (hv : vd d = true) : ∀ (m k b : Nat), d.length = b + m → m * 40 + 200 ≤ k → (∀ x y : Int, -1 ≤ x → x < y → y < b → pairC d x y = false) →
    ∃ x : Int × Int × Bool, ClashSpec d x ∧ waterhourref04_Clash.l0 k d b = some (x.1, x.2.1, x.2.2, 0)
  | 0, k, b, hb, hk, hno => by
    obtain ⟨k, rfl⟩ : ∃ m, k = m + 1 := ⟨k - 1, by omega⟩
    simp only [waterhourref04_Clash.l0]
    rw [if_neg (by omega)]
    refine ⟨(0, 0, false), ⟨fun _ => ⟨rfl, fun x y h1 h2 h3 => hno x y h1 h2 (by omega)⟩, fun h => by cases h⟩, rfl⟩
  | m + 1, k, b, hb, hk, hno => by
    obtain ⟨k, rfl⟩ : ∃ m, k = m + 1 := ⟨k - 1, by omega⟩
    have hl32 := (vd_iff.1 hv).2.1
    simp only [waterhourref04_Clash.l0]
    rw [if_pos (by omega), show wrap64 ((b : Int) - 1) = (b : Int) - 1 from by unfold wrap64; omega]
    rcases Clash_l1 hv b (by omega) b k ((b : Int) - 1) (by omega) (by omega) (by omega) with ⟨a', q1, q2, q3, q4, q5⟩ | ⟨q1, q2⟩
    · refine ⟨(a', b, true), ⟨(fun h => by cases h), fun _ => ⟨q1, by simp only; omega, by simp only; omega, q3, hno, fun a h1 h2 => q4 a h1 ?_⟩⟩, q5⟩
      simp only at h2
      omega
    · rw [q2, show wrap64 ((b : Int) + 1) = ((b + 1 : Nat) : Int) from by unfold wrap64; omega]
      refine Clash_l0 hv m (k - b - 2) (b + 1) (by omega) (by omega) (fun x y h1 h2 h3 => ?_)
      rcases Int.lt_or_le y b with h | h
      · exact hno x y h1 h2 h
      · obtain rfl : y = b := by omega
        exact q1 x h1 (by omega)
theorem rClash_eq (d : List S51) (k : Nat) (hk : 2000 ≤ k) : waterhourref04_Clash.f k d = some (if vd d = true then ((clashOf d).1, (clashOf d).2.1, (clashOf d).2.2, 0) else (0, 0, false, 40)) := by
  unfold waterhourref04_Clash.f
  rw [Valid_eq d k (by omega)]
  simp only [Option.bind_some]
  by_cases hv : vd d = true
  · rw [if_pos hv, if_pos hv]
    obtain ⟨x, hx, he⟩ := Clash_l0 hv d.length k 0 (by omega) (by have := (vd_iff.1 hv).2.1; omega) (fun x y h1 h2 h3 => by omega)
    rw [show ((0 : Nat) : Int) = 0 from rfl] at he
    rw [he, hx.unique (clashOf_spec d)]
  · rw [if_neg hv, if_neg hv]
theorem rPossible_eq (d : List S51) (k : Nat) (hk : 2000 ≤ k) : waterhourref04_Possible.f k d = some (vd d && !(clashOf d).2.2, if vd d = true then 0 else 40) := by
  unfold waterhourref04_Possible.f
  rw [rClash_eq d k hk]
  by_cases hv : vd d = true
  · simp [hv]
  · simp [hv]
end Go.Proofs.YtgiihjcpgjpkcaaDoor.Q
end
section
namespace Go.Proofs.YtgiihjcpgjpkcaaDoor.Q
open Go.RowKit Go.Proofs.YtgiihjcpgjpkcaaDoorW.PrintWords Go.Proofs.YtgiihjcpgjpkcaaDoorW.PrintLast Go.Proofs.YtgiihjcpgjpkcaaDoorW.PrintMore
set_option linter.unusedVariables false
set_option linter.unusedSimpArgs false
theorem rtime_l0 {d : List S51} (hv : vd d = true) {i : Int} (hi : 0 ≤ i) (hi' : i < d.length) : ∀ (m k n : Nat) (p : Int × Int), d.length = n + m → m + 60 ≤ k → TimeSpec d i n p → waterhourref04_time.l0 k d i n p.1 p.2 = some (timeOf d i)
  | 0, k, n, p, hn, hk, hp => by
    obtain ⟨k, rfl⟩ : ∃ m, k = m + 1 := ⟨k - 1, by omega⟩
    simp only [waterhourref04_time.l0]
    obtain rfl : d.length = n := by omega
    rw [if_neg (by omega), hp.unique (timeOf_spec hv hi hi')]
  | m + 1, k, n, p, hn, hk, hp => by
    obtain ⟨k, rfl⟩ : ∃ m, k = m + 1 := ⟨k - 1, by omega⟩
    have hl32 := (vd_iff.1 hv).2.1
    simp only [waterhourref04_time.l0]
    rw [if_pos (by omega), Tells_eq hv (by omega) (by omega) (by omega) hi' k (by omega), show wrap64 ((n : Int) + 1) = ((n + 1 : Nat) : Int) from by unfold wrap64; omega]
    simp only [Option.bind_some]
    by_cases hK : isK d (n : Int) = true
    · rw [if_pos hK, if_pos rfl]
      exact rtime_l0 hv hi hi' m k (n + 1) _ (by omega) (by omega) (by rw [show ((n + 1 : Nat) : Int) = (n : Int) + 1 from by omega]; exact hp.step (by omega) hK)
    · rw [if_neg hK, if_neg (by decide)]
      exact rtime_l0 hv hi hi' m k (n + 1) p (by omega) (by omega) (by rw [show ((n + 1 : Nat) : Int) = (n : Int) + 1 from by omega]; exact hp.skip (Bool.eq_false_iff.2 hK))
theorem rtime_eq {d : List S51} (hv : vd d = true) {i : Int} (hi : 0 ≤ i) (hi' : i < d.length) (k : Nat) (hk : 100 ≤ k) : waterhourref04_time.f k d i = some (timeOf d i) := by
  have hl32 := (vd_iff.1 hv).2.1
  unfold waterhourref04_time.f
  rw [Tells_eq hv (by omega) (by omega) (by omega) hi' k (by omega)]
  simp only [isK_beg, if_true, Option.bind_some, (tl_beg d hi).1, (tl_beg d hi).2]
  exact rtime_l0 hv hi hi' d.length k 0 (SL d i, SH d i) (by omega) (by omega) (TimeSpec.beg hi)
theorem rfirst_l0 {d : List S51} (l : List Int) (hl : l.length ≤ 30) (c : Bool) : ∀ (m k n : Nat), l.length = n + m → m < k → waterhourref04_first.l0 k d l c n = some (if inds d 0 (l.drop n) = true then (if c = true then 0 else 31) else 1) := by
  intro m
  induction m with
  | zero =>
    intro k n hn hk
    obtain ⟨k, rfl⟩ : ∃ m, k = m + 1 := ⟨k - 1, by omega⟩
    simp only [waterhourref04_first.l0]
    rw [if_neg (by omega), List.drop_of_length_le (by omega)]
    cases c <;> rfl
  | succ m ih =>
    intro k n hn hk
    obtain ⟨k, rfl⟩ : ∃ m, k = m + 1 := ⟨k - 1, by omega⟩
    simp only [waterhourref04_first.l0]
    have hlt : n < l.length := by omega
    have e : l.drop n = rd l (n : Int) :: l.drop (n + 1) := by
      rw [List.drop_eq_getElem_cons hlt]
      congr 1
      unfold rd
      rw [Int.toNat_natCast, List.getD_eq_getElem?_getD, List.getElem?_eq_getElem hlt]
      rfl
    rw [if_pos (by omega), if_pos (by omega), Event_eq, e]
    simp only [Option.bind_some]
    unfold inds
    rw [List.all_cons]
    by_cases h : 0 ≤ rd l (n : Int) ∧ rd l (n : Int) < d.length
    · rw [if_pos (decide_eq_true h), decide_eq_true h.1, decide_eq_true h.2, Bool.true_and, Bool.true_and]
      rw [show wrap64 ((n : Int) + 1) = ((n + 1 : Nat) : Int) from by unfold wrap64; omega]
      exact ih k (n + 1) (by omega) (by omega)
    · rw [if_neg (by simpa using h), if_neg]
      simp only [Bool.and_eq_true, decide_eq_true_eq, not_and]
      intro h1
      exact absurd h1 h
theorem rfirst_eq (d : List S51) (l : List Int) (hl : l.length ≤ 30) (k : Nat) (hk : 2000 ≤ k) : waterhourref04_first.f k d l = some (if vd d = true then (if inds d 0 l = true then (if (clashOf d).2.2 = true then 31 else 0) else 1) else 40) := by
  unfold waterhourref04_first.f
  rw [rPossible_eq d k hk]
  by_cases hv : vd d = true
  · simp only [hv, Bool.true_and, Option.bind_some, if_true]
    have := rfirst_l0 (d := d) l hl (!(clashOf d).2.2) l.length k 0 (by omega) (by omega)
    rw [show ((0 : Nat) : Int) = 0 from rfl] at this
    rw [this, List.drop_zero]
    cases (clashOf d).2.2 <;> rfl
  · simp [hv]
theorem rfirst_E (d : List S51) (k : Nat) (hk : 2000 ≤ k) : waterhourref04_first.f k d [] = some (readyE d) := by
  rw [rfirst_eq d [] (by simp) k hk]
  unfold readyE inds
  simp
end Go.Proofs.YtgiihjcpgjpkcaaDoor.Q
end
section
namespace Go.Proofs.YtgiihjcpgjpkcaaDoor.Q
open Go.RowKit Go.Proofs.YtgiihjcpgjpkcaaDoorW.PrintWords Go.Proofs.YtgiihjcpgjpkcaaDoorW.PrintLast Go.Proofs.YtgiihjcpgjpkcaaDoorW.PrintMore
set_option linter.unusedVariables false
set_option linter.unusedSimpArgs false
theorem rBetween_eq (d : List S51) (a b : Int) (k : Nat) (hk : 2000 ≤ k) : waterhourref04_Between.f k d a b = some (if betweenErr d a b = 0 then ((betweenOf d a b).1, (betweenOf d a b).2, 0) else (0, 0, betweenErr d a b)) := by
  obtain ⟨k, rfl⟩ : ∃ m, k = m + 1 := ⟨k - 1, by omega⟩
  unfold waterhourref04_Between.f
  rw [rPossible_eq d (k + 1) hk]
  by_cases hv : vd d = true
  · simp only [hv, if_true, Option.bind_some, Event_eq, waterhourref04_Between.j0, decide_eq_true_eq, Bool.true_and]
    by_cases h1 : -1 ≤ a ∧ a < d.length
    · rw [if_pos h1]
      by_cases h2 : 0 ≤ b ∧ b < d.length
      · rw [if_pos h2]
        by_cases h3 : a ≥ b
        · rw [if_pos h3, betweenErr_arg hv (by omega)]
          rfl
        · rw [if_neg h3, betweenErr_yes hv (by omega)]
          cases hc : (clashOf d).2.2 with
          | false =>
            simp only [Bool.not_false, if_true, Bool.false_eq_true, if_false]
            have tb := time_bound hv (i := b) h2.1 h2.2
            rw [way_eq hv h1.1 (by omega) h2.2 k (by omega), rtime_eq hv h2.1 h2.2 k (by omega)]
            simp only [Option.bind_some]
            unfold betweenOf timeB
            by_cases h4 : a ≥ 0
            · have ta := time_bound hv (i := a) h4 (by omega)
              rw [if_pos h4, rtime_eq hv h4 (by omega) k (by omega), if_pos h4]
              simp only [Option.bind_some]
              rw [show wrap64 ((timeOf d b).1 - (timeOf d a).2) = (timeOf d b).1 - (timeOf d a).2 from by unfold wrap64; omega, show wrap64 ((timeOf d b).2 - (timeOf d a).1) = (timeOf d b).2 - (timeOf d a).1 from by unfold wrap64; omega]
            · rw [if_neg h4, if_neg h4]
              simp only [Int.sub_zero]
              rw [show wrap64 (timeOf d b).1 = (timeOf d b).1 from by unfold wrap64; omega, show wrap64 (timeOf d b).2 = (timeOf d b).2 from by unfold wrap64; omega]
          | true => rfl
      · rw [if_neg h2, betweenErr_arg hv (by omega)]
        rfl
    · rw [if_neg h1, betweenErr_arg hv (by omega)]
      rfl
  · have hE : betweenErr d a b = 40 := by unfold betweenErr; rw [if_neg hv]
    simp [hv, hE]
end Go.Proofs.YtgiihjcpgjpkcaaDoor.Q
end
section
namespace Go.Proofs.YtgiihjcpgjpkcaaDoor.Q
open Go.RowKit Go.Proofs.YtgiihjcpgjpkcaaDoorW.PrintWords Go.Proofs.YtgiihjcpgjpkcaaDoorW.PrintLast Go.Proofs.YtgiihjcpgjpkcaaDoorW.PrintMore
set_option linter.unusedVariables false
set_option linter.unusedSimpArgs false
structure KnownFacts (d : List S51) (i x0 x1 : Int) : Prop where
  vdk : vd (withAt d i (narrowedAt (rd_T51 d i) x0 x1)) = true
  le : (narrowedAt (rd_T51 d i) x0 x1).1 ≤ (narrowedAt (rd_T51 d i) x0 x1).2
  allows : ∀ m, (chainOf (withAt d i (narrowedAt (rd_T51 d i) x0 x1))).Allows m ↔ (chainOf d).Allows m ∧ x0 ≤ m (i + 1).toNat ∧ m (i + 1).toNat ≤ x1
theorem knownErr_zero {d : List S51} {i x0 x1 : Int} (h : knownErr d i x0 x1 = 0) : vd d = true ∧ (0 ≤ i ∧ i < d.length) ∧ (0 ≤ x0 ∧ x0 ≤ x1 ∧ x1 ≤ 16777216) ∧ (narrowedAt (rd_T51 d i) x0 x1).1 ≤ (narrowedAt (rd_T51 d i) x0 x1).2 := by
  unfold knownErr at h
  by_cases hv : vd d = true
  · rw [if_pos hv] at h
    by_cases hi : 0 ≤ i ∧ i < d.length
    · rw [if_pos hi] at h
      by_cases hx : 0 ≤ x0 ∧ x0 ≤ x1 ∧ x1 ≤ 16777216
      · rw [if_pos hx] at h
        by_cases hn : (narrowedAt (rd_T51 d i) x0 x1).1 > (narrowedAt (rd_T51 d i) x0 x1).2
        · rw [if_pos hn] at h; omega
        · exact ⟨hv, hi, hx, by omega⟩
      · rw [if_neg hx] at h; omega
    · rw [if_neg hi] at h; omega
  · rw [if_neg hv] at h; omega
end Go.Proofs.YtgiihjcpgjpkcaaDoor.Q
end
section
namespace Go.Proofs.YtgiihjcpgjpkcaaDoor.Q
open Go.RowKit Go.Proofs.YtgiihjcpgjpkcaaDoorW.PrintWords Go.Proofs.YtgiihjcpgjpkcaaDoorW.PrintLast Go.Proofs.YtgiihjcpgjpkcaaDoorW.PrintMore
def exD : List S51 := [⟨⟨10, 30⟩, ⟨1, 0⟩⟩, ⟨⟨100, 120⟩, ⟨0, 125⟩⟩]
def lateD : List S51 := [⟨⟨10, 30⟩, ⟨1, 0⟩⟩, ⟨⟨100, 120⟩, ⟨0, 105⟩⟩]
def closedD : List S51 := [⟨⟨10, 25⟩, ⟨10, 25⟩⟩, ⟨⟨100, 115⟩, ⟨110, 125⟩⟩]
def withoutD : List S51 := [⟨⟨110, 150⟩, ⟨0, 125⟩⟩]
def exText : ByteArray := ⟨#[49, 48, 45, 50, 53, 64, 49, 48, 45, 50, 53, 32, 49, 48, 48, 45, 49, 49, 53, 64, 49, 49, 48, 45, 49, 50, 53]⟩
theorem sane_example : waterhourlaw04_example.f = some exD := by kernel_rfl
theorem sane_Earliest : refill_Earliest.f exD = some ([10, 110], 0) := by kernel_rfl
theorem sane_Latest : refill_Latest.f exD = some ([25, 125], 0) := by kernel_rfl
theorem sane_Between : refill_Between.f 60 exD 0 1 = some (100, 115, 0) := by kernel_rfl
theorem sane_Clash : refill_Clash.f 60 lateD = some (-1, 1, true, 0) := by kernel_rfl
theorem sane_Proof : refill_Proof.f exD 0 true = some (1, 0) := by kernel_rfl
theorem sane_Closed : refill_Closed.f 60 exD = some (closedD, 0) := by kernel_rfl
theorem sane_Print : refill_Print.f 60 closedD = some (exText, 0) := by kernel_rfl
theorem sane_Attain : refill_Attain.f 60 exD 1 120 = some ([10, 120], true, 0) := by kernel_rfl
theorem sane_Known : refill_Known.f exD 1 126 130 = some ([], 4) := by kernel_rfl
theorem sane_Without : refill_Without.f exD 0 = some (withoutD, 0) := by kernel_rfl
theorem sane_Times : refill_CheckTimes.f exD [25, 125] = some 0 := by kernel_rfl
theorem sane_Times' : refill_CheckTimes.f exD [26, 125] = some 31 := by kernel_rfl
theorem sane_CheckClash : refill_CheckClash.f 60 lateD (-1) 1 = some 0 := by kernel_rfl
theorem sane_CheckProof : refill_CheckProof.f 60 exD 0 true 24 1 = some 32 := by kernel_rfl
theorem sane_Check : refill_Check.f 60 [] = some 40 := by kernel_rfl
theorem sane_Equal (l : List Int) (x y : Int) (h : l = [x, y]) : slices_Equal_int_int.f 60 l [x, y] = some true := by
  subst h
  simp [slices_Equal_int_int.f, slices_Equal_int_int.l0, rd, wrap64]
end Go.Proofs.YtgiihjcpgjpkcaaDoor.Q
end
