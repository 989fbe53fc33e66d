/- A day all of whose minutes are moved by the same number: all that is told is moved alike; and the first events of a day alone. No program in sight. -/
import Derived.Test.YtgiihjcpgjpkcaaDoorHFacts
namespace Go.Proofs.YtgiihjcpgjpkcaaDoor.Q
open Go.RowKit Go.Proofs.YtgiihjcpgjpkcaaDoorW.PrintWords Go.Proofs.YtgiihjcpgjpkcaaDoorW.PrintLast Go.Proofs.YtgiihjcpgjpkcaaDoorW.PrintMore
set_option linter.unusedVariables false
set_option linter.unusedSimpArgs false

def movedEv (j : Nat) (e : S51) (by_ : Int) : S51 := ⟨if j = 0 then ⟨e.f0.f0 + by_, e.f0.f1 + by_⟩ else e.f0, if e.f1.f0 ≤ e.f1.f1 then ⟨e.f1.f0 + by_, e.f1.f1 + by_⟩ else e.f1⟩
/-- m is the day d moved by a number. -/
structure Moved (d m : List S51) (by_ : Int) : Prop where
  len : m.length = d.length
  ev : ∀ p : Nat, p < d.length → rd_T51 m (p : Int) = movedEv p (rd_T51 d (p : Int)) by_
namespace Moved
variable {d m : List S51} {by_ : Int}
theorem sums (h : Moved d m by_) : ∀ p : Nat, p < d.length → SL m (p : Int) = SL d (p : Int) + by_ ∧ SH m (p : Int) = SH d (p : Int) + by_
  | 0, hp => by
    have h1 := SL_succ d 0 hp
    have h2 := SL_succ m 0 (by rw [h.len]; exact hp)
    rw [h.ev 0 hp] at h2
    have b1 := SL_beg d
    have b2 := SL_beg m
    have e : ((0 : Nat) : Int) - 1 = -1 := rfl
    rw [e] at h1 h2
    unfold movedEv at h2
    simp only [if_pos] at h2
    omega
  | p + 1, hp => by
    have ih := sums h p (by omega)
    have h1 := SL_succ d (p + 1) hp
    have h2 := SL_succ m (p + 1) (by rw [h.len]; exact hp)
    rw [h.ev (p + 1) hp] at h2
    rw [show ((p + 1 : Nat) : Int) - 1 = (p : Int) from by omega] at h1 h2
    unfold movedEv at h2
    rw [if_neg (by omega)] at h2
    simp only at h2
    omega
theorem sums' (h : Moved d m by_) {i : Int} (h0 : 0 ≤ i) (h1 : i < d.length) : SL m i = SL d i + by_ ∧ SH m i = SH d i + by_ := by
  obtain ⟨p, rfl⟩ := Int.eq_ofNat_of_zero_le h0
  exact h.sums p (by omega)
theorem known (h : Moved d m by_) (hv : vd d = true) (hm : vd m = true) {i : Int} (h0 : -1 ≤ i) (h1 : i < d.length) : isK m i = isK d i := by
  have b1 := (atOf_bound hv h1).2.2.2.2
  have b2 := (atOf_bound hm (i := i) (by rw [h.len]; exact h1)).2.2.2.2
  rw [Bool.eq_iff_iff, b1, b2]
  by_cases hi : i < 0
  · obtain rfl : i = -1 := by omega
    exact Iff.rfl
  · obtain ⟨p, rfl⟩ := Int.eq_ofNat_of_zero_le (show 0 ≤ i by omega)
    rw [atOf_nat, atOf_nat, h.ev p (by omega)]
    unfold movedEv
    simp only
    by_cases hk : (rd_T51 d (p : Int)).f1.f0 ≤ (rd_T51 d (p : Int)).f1.f1
    · rw [if_pos hk]; simp only; omega
    · rw [if_neg hk]
theorem at_ (h : Moved d m by_) (hv : vd d = true) {i : Int} (h0 : 0 ≤ i) (h1 : i < d.length) (hK : isK d i = true) : (atOf m i).f0 = (atOf d i).f0 + by_ ∧ (atOf m i).f1 = (atOf d i).f1 + by_ := by
  have b1 := (atOf_bound hv h1).2.2.2.2.1 hK
  obtain ⟨p, rfl⟩ := Int.eq_ofNat_of_zero_le h0
  rw [atOf_nat] at b1
  rw [atOf_nat, atOf_nat, h.ev p (by omega)]
  unfold movedEv
  simp only
  rw [if_pos b1]
  exact ⟨rfl, rfl⟩
theorem tells (h : Moved d m by_) (hv : vd d = true) {j i : Int} (hj : -1 ≤ j) (hj' : j < d.length) (hi : 0 ≤ i) (hi' : i < d.length) (hK : isK d j = true) : tlo m j i = tlo d j i + by_ ∧ thi m j i = thi d j i + by_ := by
  have si := h.sums' hi hi'
  by_cases h0 : j < 0
  · obtain rfl : j = -1 := by omega
    have t1 := tl_beg d hi
    have t2 := tl_beg m hi
    omega
  · have sj := h.sums' (show 0 ≤ j by omega) hj'
    have ha := h.at_ hv (show 0 ≤ j by omega) hj' hK
    unfold tlo thi
    by_cases hji : j ≤ i
    · simp only [if_pos hji]; omega
    · simp only [if_neg hji]; omega
theorem pair (h : Moved d m by_) (hv : vd d = true) (hm : vd m = true) {a b : Int} (ha : -1 ≤ a) (hab : a < b) (hb : b < d.length) : pairC m a b = pairC d a b := by
  unfold pairC
  rw [h.known hv hm ha (by omega), h.known hv hm (by omega) hb]
  cases hKa : isK d a with
  | false => rfl
  | true =>
    cases hKb : isK d b with
    | false => rfl
    | true =>
      simp only [Bool.true_and]
      have atb := h.at_ hv (i := b) (by omega) hb hKb
      have sb := h.sums' (i := b) (by omega) hb
      have key : ((atOf m b).f1 < (atOf m a).f0 + (SL m b - SL m a) ↔ (atOf d b).f1 < (atOf d a).f0 + (SL d b - SL d a)) ∧ ((atOf m a).f1 + (SH m b - SH m a) < (atOf m b).f0 ↔ (atOf d a).f1 + (SH d b - SH d a) < (atOf d b).f0) := by
        by_cases h0 : a < 0
        · obtain rfl : a = -1 := by omega
          have b1 := SL_beg d
          have b2 := SL_beg m
          have e1 : atOf d (-1) = ⟨0, 0⟩ := rfl
          have e2 : atOf m (-1) = ⟨0, 0⟩ := rfl
          rw [e1, e2]
          simp only
          omega
        · have ata := h.at_ hv (i := a) (by omega) (by omega) hKa
          have sa := h.sums' (i := a) (by omega) (by omega)
          omega
      unfold cannotB
      rw [decide_eq_decide.2 key.1, decide_eq_decide.2 key.2]
theorem clash (h : Moved d m by_) (hv : vd d = true) (hm : vd m = true) : clashOf m = clashOf d := by
  have hs := clashOf_spec d
  refine (clashOf_spec m).unique ⟨fun hx => ⟨(hs.none_ hx).1, fun a b h1 h2 h3 => ?_⟩, fun hx => ?_⟩
  · rw [h.len] at h3
    rw [h.pair hv hm h1 h2 h3]
    exact (hs.none_ hx).2 a b h1 h2 h3
  · obtain ⟨q1, q2, q3, q4, q5, q6⟩ := hs.some_ hx
    refine ⟨q1, q2, by rw [h.len]; exact q3, by rw [h.pair hv hm q1 q2 q3]; exact q4, fun a b h1 h2 h3 => ?_, fun a h1 h2 => ?_⟩
    · rw [h.pair hv hm h1 h2 (by omega)]; exact q5 a b h1 h2 h3
    · rw [h.pair hv hm (by omega) h2 q3]; exact q6 a h1 h2
theorem time (h : Moved d m by_) (hv : vd d = true) (hm : vd m = true) {i : Int} (hi : 0 ≤ i) (hi' : i < d.length) : timeOf m i = ((timeOf d i).1 + by_, (timeOf d i).2 + by_) := by
  have hs := timeOf_spec hv hi hi'
  have hs' := timeOf_spec hm hi (by rw [h.len]; exact hi')
  rw [h.len] at hs'
  refine hs'.unique ⟨fun j h1 h2 h3 => ?_, ?_, fun j h1 h2 h3 => ?_, ?_⟩
  · rw [h.known hv hm h1 h2] at h3
    have := hs.lo j h1 h2 h3
    have := h.tells hv h1 h2 hi hi' h3
    simp only; omega
  · obtain ⟨j, h1, h2, h3, h4⟩ := hs.lo_
    have := h.tells hv h1 h2 hi hi' h3
    exact ⟨j, h1, h2, by rw [h.known hv hm h1 h2]; exact h3, by simp only; omega⟩
  · rw [h.known hv hm h1 h2] at h3
    have := hs.hi j h1 h2 h3
    have := h.tells hv h1 h2 hi hi' h3
    simp only; omega
  · obtain ⟨j, h1, h2, h3, h4⟩ := hs.hi_
    have := h.tells hv h1 h2 hi hi' h3
    exact ⟨j, h1, h2, by rw [h.known hv hm h1 h2]; exact h3, by simp only; omega⟩
theorem proof (h : Moved d m by_) (hv : vd d = true) (hm : vd m = true) {i : Int} (hi : 0 ≤ i) (hi' : i < d.length) (lat : Bool) : firstOf m i lat (boundOf m i lat) = firstOf d i lat (boundOf d i lat) := by
  obtain ⟨a1, a2, a3, a4, a5⟩ := firstOf_spec (bound_proved hv hi hi' lat)
  obtain ⟨b1, b2, b3, b4, b5⟩ := firstOf_spec (bound_proved hm hi (by rw [h.len]; exact hi') lat)
  rw [h.len] at b2
  have key : ∀ j : Int, -1 ≤ j → j < d.length → isK d j = true → prv m i lat (boundOf m i lat) j = prv d i lat (boundOf d i lat) j := fun j h1 h2 h3 => by
    have ht := h.tells hv h1 h2 hi hi' h3
    have hT := h.time hv hm hi hi'
    unfold prv boundOf
    rw [hT]
    cases lat
    · simp only [Bool.false_eq_true, if_false]
      exact decide_eq_decide.2 (by omega)
    · simp only [if_true]
      exact decide_eq_decide.2 (by omega)
  generalize firstOf m i lat (boundOf m i lat) = x at *
  generalize firstOf d i lat (boundOf d i lat) = y at *
  rcases Int.lt_trichotomy x y with hlt | he | hgt
  · have h3 := b3
    rw [h.known hv hm b1 b2] at h3
    have := a5 x b1 hlt h3
    rw [← key x b1 b2 h3, b4] at this; cases this
  · exact he
  · have := b5 y a1 hgt (by rw [h.known hv hm a1 a2]; exact a3)
    rw [key y a1 a2 a3, a4] at this; cases this
theorem between (h : Moved d m by_) (hv : vd d = true) (hm : vd m = true) {a b : Int} (ha : 0 ≤ a) (hab : a < b) (hb : b < d.length) : betweenOf m a b = betweenOf d a b := by
  have sa := h.sums' (i := a) ha (by omega)
  have sb := h.sums' (i := b) (by omega) hb
  rw [between_max, between_max, timeB_of m ha, timeB_of d ha, h.time hv hm ha (by omega), h.time hv hm (i := b) (by omega) hb]
  simp only
  exact Prod.ext (by simp only; omega) (by simp only; omega)
end Moved

/-! ### the first events alone -/
section
variable {d : List S51} {n : Nat}
theorem rd_take {p : Nat} (h : p < n) (hn : n ≤ d.length) : rd_T51 (d.take n) (p : Int) = rd_T51 d (p : Int) := by
  rw [rd_at (by rw [List.length_take]; omega), rd_at (by omega), List.getElem_take]
theorem SL_take {i : Int} (h : i < n) : SL (d.take n) i = SL d i ∧ SH (d.take n) i = SH d i := by
  unfold SL SH
  rw [List.take_take, Nat.min_eq_left (by omega)]
  exact ⟨rfl, rfl⟩
theorem take_len (hn : n ≤ d.length) : (d.take n).length = n := by rw [List.length_take]; omega
theorem take_vd (hv : vd d = true) (h1 : 1 ≤ n) (hn : n ≤ d.length) : vd (d.take n) = true := by
  obtain ⟨_, h2, h3⟩ := vd_iff.1 hv
  exact vd_iff.2 ⟨by rw [take_len hn]; exact h1, by rw [take_len hn]; omega, fun e he => h3 e (List.mem_of_mem_take he)⟩
theorem take_atOf (hn : n ≤ d.length) {i : Int} (h : i < n) : atOf (d.take n) i = atOf d i ∧ isK (d.take n) i = isK d i := by
  unfold atOf isK
  by_cases h0 : i < 0
  · simp [h0]
  · obtain ⟨p, rfl⟩ := Int.eq_ofNat_of_zero_le (show 0 ≤ i by omega)
    rw [rd_take (by omega) hn]
    exact ⟨rfl, rfl⟩
theorem take_tells (hn : n ≤ d.length) {j i : Int} (hj : j < n) (hi : i < n) : tlo (d.take n) j i = tlo d j i ∧ thi (d.take n) j i = thi d j i := by
  unfold tlo thi
  rw [(take_atOf hn hj).1, (SL_take hj).1, (SL_take hj).2, (SL_take hi).1, (SL_take hi).2]
  exact ⟨rfl, rfl⟩
theorem take_pair (hn : n ≤ d.length) {a b : Int} (ha : a < n) (hb : b < n) : pairC (d.take n) a b = pairC d a b := by
  unfold pairC cannotB
  rw [(take_atOf hn ha).1, (take_atOf hn ha).2, (take_atOf hn hb).1, (take_atOf hn hb).2, (SL_take ha).1, (SL_take ha).2, (SL_take hb).1, (SL_take hb).2]
theorem take_noClash (hn : n ≤ d.length) (hc : (clashOf d).2.2 = false) : (clashOf (d.take n)).2.2 = false := by
  cases h : (clashOf (d.take n)).2.2 with
  | false => rfl
  | true =>
    obtain ⟨q1, q2, q3, q4, _⟩ := (clashOf_spec (d.take n)).some_ h
    rw [take_len hn] at q3
    rw [take_pair hn (by omega) q3, ((clashOf_spec d).none_ hc).2 _ _ q1 q2 (by omega)] at q4
    cases q4
theorem take_time (hv : vd d = true) (h1 : 1 ≤ n) (hn : n ≤ d.length) {i : Int} (hi : 0 ≤ i) (hi' : i < n) : (timeOf (d.take n) i).1 ≤ (timeOf d i).1 ∧ (timeOf d i).2 ≤ (timeOf (d.take n) i).2 := by
  have hs := timeOf_spec hv hi (by omega)
  have hs' := timeOf_spec (take_vd hv h1 hn) hi (by rw [take_len hn]; exact hi')
  rw [take_len hn] at hs'
  obtain ⟨j, a1, a2, a3, a4⟩ := hs'.lo_
  obtain ⟨q, b1, b2, b3, b4⟩ := hs'.hi_
  have ta := take_tells hn a2 hi'
  have tb := take_tells hn b2 hi'
  rw [(take_atOf hn a2).2] at a3
  rw [(take_atOf hn b2).2] at b3
  have := hs.lo j a1 (by omega) a3
  have := hs.hi q b1 (by omega) b3
  omega
theorem take_timeB (hv : vd d = true) (h1 : 1 ≤ n) (hn : n ≤ d.length) {i : Int} (hi : -1 ≤ i) (hi' : i < n) : (timeB (d.take n) i).1 ≤ (timeB d i).1 ∧ (timeB d i).2 ≤ (timeB (d.take n) i).2 := by
  by_cases h0 : 0 ≤ i
  · rw [timeB_of _ h0, timeB_of _ h0]; exact take_time hv h1 hn h0 hi'
  · unfold timeB
    rw [if_neg h0, if_neg h0]
    exact ⟨Int.le_refl _, Int.le_refl _⟩
theorem take_same (hv : vd d = true) (h1 : 1 ≤ n) (hn : n ≤ d.length) (hk : ∀ j : Int, (n : Int) ≤ j → j < d.length → isK d j = false) {i : Int} (hi : 0 ≤ i) (hi' : i < n) : timeOf (d.take n) i = timeOf d i := by
  have hs := timeOf_spec hv hi (by omega)
  have hs' := timeOf_spec (take_vd hv h1 hn) hi (by rw [take_len hn]; exact hi')
  rw [take_len hn] at hs'
  have hlt : ∀ j : Int, j < d.length → isK d j = true → j < n := fun j h2 h3 => by
    rcases Int.lt_or_le j n with q | q
    · exact q
    · rw [hk j q h2] at h3; cases h3
  obtain ⟨j, a1, a2, a3, a4⟩ := hs.lo_
  obtain ⟨q, b1, b2, b3, b4⟩ := hs.hi_
  have a2' := hlt j a2 a3
  have b2' := hlt q b2 b3
  have ta := take_tells hn a2' hi'
  have tb := take_tells hn b2' hi'
  have := hs'.lo j a1 a2' (by rw [(take_atOf hn a2').2]; exact a3)
  have := hs'.hi q b1 b2' (by rw [(take_atOf hn b2').2]; exact b3)
  have := take_time hv h1 hn hi hi'
  exact Prod.ext (by omega) (by omega)
theorem take_timeB_same (hv : vd d = true) (h1 : 1 ≤ n) (hn : n ≤ d.length) (hk : ∀ j : Int, (n : Int) ≤ j → j < d.length → isK d j = false) {i : Int} (hi : -1 ≤ i) (hi' : i < n) : timeB (d.take n) i = timeB d i := by
  by_cases h0 : 0 ≤ i
  · rw [timeB_of _ h0, timeB_of _ h0]; exact take_same hv h1 hn hk h0 hi'
  · unfold timeB
    rw [if_neg h0, if_neg h0]
theorem take_between (hv : vd d = true) (h1 : 1 ≤ n) (hn : n ≤ d.length) {a b : Int} (ha : -1 ≤ a) (hb0 : 0 ≤ b) (hab : a ≤ b) (hb : b < n) : (betweenOf (d.take n) a b).1 ≤ (betweenOf d a b).1 ∧ (betweenOf d a b).2 ≤ (betweenOf (d.take n) a b).2 := by
  have ta := take_timeB hv h1 hn ha (by omega)
  have tb := take_time hv h1 hn hb0 hb
  rw [between_max, between_max, (SL_take (d := d) (n := n) (i := a) (by omega)).1, (SL_take (d := d) (n := n) (i := a) (by omega)).2, (SL_take (d := d) hb).1, (SL_take (d := d) hb).2]
  simp only
  omega
theorem take_between_same (hv : vd d = true) (h1 : 1 ≤ n) (hn : n ≤ d.length) (hk : ∀ j : Int, (n : Int) ≤ j → j < d.length → isK d j = false) {a b : Int} (ha : -1 ≤ a) (hb0 : 0 ≤ b) (hab : a ≤ b) (hb : b < n) : betweenOf (d.take n) a b = betweenOf d a b := by
  rw [between_max, between_max, take_timeB_same hv h1 hn hk ha (by omega), take_same hv h1 hn hk hb0 hb, (SL_take (d := d) (n := n) (i := a) (by omega)).1, (SL_take (d := d) (n := n) (i := a) (by omega)).2, (SL_take (d := d) hb).1, (SL_take (d := d) hb).2]
end
end Go.Proofs.YtgiihjcpgjpkcaaDoor.Q
