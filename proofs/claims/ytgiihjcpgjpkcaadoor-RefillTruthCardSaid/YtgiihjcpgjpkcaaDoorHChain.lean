/- Chains of events, in plain numbers: what is allowed, when two events cannot be so, the earliest and the latest minutes; and that a valid day is such a chain. No program in sight. -/
import Derived.Test.YtgiihjcpgjpkcaaDoorHSpec
import Derived.Test.YtgiihjcpgjpkcaaDoorHCheck
namespace Go.Proofs.YtgiihjcpgjpkcaaDoor.Q
open Go.RowKit Go.Proofs.YtgiihjcpgjpkcaaDoorW.PrintWords Go.Proofs.YtgiihjcpgjpkcaaDoorW.PrintLast Go.Proofs.YtgiihjcpgjpkcaaDoorW.PrintMore
set_option linter.unusedVariables false
set_option linter.unusedSimpArgs false

/-- The plain law of layer 4: chains of events.  Position 0 is the beginning, position p the event p - 1. -/
structure Chain where
  n : Nat
  L : Nat → Int
  H : Nat → Int
  K : Nat → Prop
  a : Nat → Int
  b : Nat → Int

namespace Chain
variable (c : Chain)

/-- What a valid day gives. -/
structure Ok : Prop where
  step : ∀ p, p < c.n → c.L p ≤ c.L (p + 1) ∧ c.L (p + 1) - c.L p ≤ c.H (p + 1) - c.H p
  known0 : c.K 0
  a0 : c.a 0 = 0
  b0 : c.b 0 = 0
  ab : ∀ p, p ≤ c.n → c.K p → c.a p ≤ c.b p

def tl (k i : Nat) : Int := if k ≤ i then c.a k + (c.L i - c.L k) else c.a k - (c.H k - c.H i)
def th (k i : Nat) : Int := if k ≤ i then c.b k + (c.H i - c.H k) else c.b k - (c.L k - c.L i)

structure Allows (m : Nat → Int) : Prop where
  zero : m 0 = 0
  step : ∀ p, p < c.n → c.L (p + 1) - c.L p ≤ m (p + 1) - m p ∧ m (p + 1) - m p ≤ c.H (p + 1) - c.H p
  at_ : ∀ p, p ≤ c.n → c.K p → c.a p ≤ m p ∧ m p ≤ c.b p

def Cannot (p q : Nat) : Prop := c.K p ∧ c.K q ∧ (c.b q < c.a p + (c.L q - c.L p) ∨ c.b p + (c.H q - c.H p) < c.a q)
def NoClash : Prop := ∀ p q, p < q → q ≤ c.n → ¬ c.Cannot p q

/-- t is the greatest of what is told at least, u the least of what is told at most. -/
structure IsLo (i : Nat) (t : Int) : Prop where
  ge : ∀ k, k ≤ c.n → c.K k → c.tl k i ≤ t
  some_ : ∃ k, k ≤ c.n ∧ c.K k ∧ c.tl k i = t
structure IsHi (i : Nat) (t : Int) : Prop where
  le : ∀ k, k ≤ c.n → c.K k → t ≤ c.th k i
  some_ : ∃ k, k ≤ c.n ∧ c.K k ∧ c.th k i = t

variable {c}

theorem Ok.way (h : c.Ok) : ∀ d p, p + d ≤ c.n → c.L p ≤ c.L (p + d) ∧ c.L (p + d) - c.L p ≤ c.H (p + d) - c.H p
  | 0, p, _ => by simp
  | d + 1, p, hp => by
    have ih := Ok.way h d p (by omega)
    have hs := h.step (p + d) (by omega)
    rw [show p + (d + 1) = p + d + 1 from by omega]
    omega

theorem Ok.ways (h : c.Ok) {p q : Nat} (hpq : p ≤ q) (hq : q ≤ c.n) : c.L p ≤ c.L q ∧ c.L q - c.L p ≤ c.H q - c.H p := by
  have := h.way (q - p) p (by omega)
  rwa [show p + (q - p) = q from by omega] at this

theorem Allows.way {m : Nat → Int} (h : c.Allows m) : ∀ d p, p + d ≤ c.n → c.L (p + d) - c.L p ≤ m (p + d) - m p ∧ m (p + d) - m p ≤ c.H (p + d) - c.H p
  | 0, p, _ => by simp
  | d + 1, p, hp => by
    have ih := Allows.way h d p (by omega)
    have hs := h.step (p + d) (by omega)
    rw [show p + (d + 1) = p + d + 1 from by omega]
    omega

theorem Allows.ways {m : Nat → Int} (h : c.Allows m) {p q : Nat} (hpq : p ≤ q) (hq : q ≤ c.n) : c.L q - c.L p ≤ m q - m p ∧ m q - m p ≤ c.H q - c.H p := by
  have := h.way (q - p) p (by omega)
  rwa [show p + (q - p) = q from by omega] at this

theorem tl_le {k i : Nat} (h : k ≤ i) : c.tl k i = c.a k + (c.L i - c.L k) := if_pos h
theorem tl_gt {k i : Nat} (h : ¬ k ≤ i) : c.tl k i = c.a k - (c.H k - c.H i) := if_neg h
theorem th_le {k i : Nat} (h : k ≤ i) : c.th k i = c.b k + (c.H i - c.H k) := if_pos h
theorem th_gt {k i : Nat} (h : ¬ k ≤ i) : c.th k i = c.b k - (c.L k - c.L i) := if_neg h

/-- Whatever is allowed lies within what each known event tells. -/
theorem Allows.told {m : Nat → Int} (h : c.Allows m) {k i : Nat} (hk : k ≤ c.n) (hi : i ≤ c.n) (hK : c.K k) : c.tl k i ≤ m i ∧ m i ≤ c.th k i := by
  have hat := h.at_ k hk hK
  by_cases hki : k ≤ i
  · rw [tl_le hki, th_le hki]
    have := h.ways hki hi
    omega
  · rw [tl_gt hki, th_gt hki]
    have := h.ways (p := i) (q := k) (by omega) hk
    omega

theorem Allows.lo {m : Nat → Int} (h : c.Allows m) {i : Nat} {t : Int} (hi : i ≤ c.n) (ht : c.IsLo i t) : t ≤ m i := by
  obtain ⟨k, hk, hK, e⟩ := ht.some_
  have := (h.told hk hi hK).1
  omega
theorem Allows.hi {m : Nat → Int} (h : c.Allows m) {i : Nat} {t : Int} (hi : i ≤ c.n) (ht : c.IsHi i t) : m i ≤ t := by
  obtain ⟨k, hk, hK, e⟩ := ht.some_
  have := (h.told hk hi hK).2
  omega

theorem Allows.noClash {m : Nat → Int} (h : c.Allows m) : c.NoClash := by
  rintro p q hpq hq ⟨hp, hq', hc⟩
  have h1 := h.at_ p (by omega) hp
  have h2 := h.at_ q hq hq'
  have h3 := h.ways (p := p) (q := q) (by omega) hq
  omega

/-- What one known event tells at least of another's minute is at most what the other has. -/
theorem NoClash.tells (h : c.NoClash) (ok : c.Ok) {k i : Nat} (hk : k ≤ c.n) (hi : i ≤ c.n) (hK : c.K k) (hKi : c.K i) : c.tl k i ≤ c.b i ∧ c.a i ≤ c.th k i := by
  rcases Nat.lt_trichotomy k i with hlt | heq | hgt
  · have := h k i hlt hi
    rw [tl_le (by omega), th_le (by omega)]
    unfold Cannot at this
    constructor
    · exact Int.not_lt.1 fun hc => this ⟨hK, hKi, .inl hc⟩
    · exact Int.not_lt.1 fun hc => this ⟨hK, hKi, .inr hc⟩
  · subst heq
    have := ok.ab k hk hK
    rw [tl_le (Nat.le_refl _), th_le (Nat.le_refl _)]
    omega
  · have := h i k hgt hk
    rw [tl_gt (by omega), th_gt (by omega)]
    unfold Cannot at this
    constructor
    · have := Int.not_lt.1 fun hc => this ⟨hKi, hK, .inr hc⟩
      omega
    · have := Int.not_lt.1 fun hc => this ⟨hKi, hK, .inl hc⟩
      omega

/-- Two known events that are not in a clash: what they tell of any third is consistent. -/
theorem NoClash.meets (h : c.NoClash) (ok : c.Ok) {k j i : Nat} (hk : k ≤ c.n) (hj : j ≤ c.n) (hi : i ≤ c.n) (hK : c.K k) (hJ : c.K j) : c.tl k i ≤ c.th j i := by
  have h1 := h.tells ok hk hj hK hJ
  have h2 := h.tells ok hj hk hJ hK
  by_cases hki : k ≤ i <;> by_cases hji : j ≤ i
  · rw [tl_le hki, th_le hji]
    rcases Nat.le_total k j with hkj | hjk
    · rw [tl_le hkj] at h1
      have w1 := ok.ways hji hi
      omega
    · rw [th_le hjk] at h2
      have w1 := ok.ways hki hi
      omega
  · rw [tl_le hki, th_gt hji]
    have hkj : k ≤ j := by omega
    rw [tl_le hkj] at h1
    omega
  · rw [tl_gt hki, th_le hji]
    have hjk : j ≤ k := by omega
    rw [th_le hjk] at h2
    omega
  · rw [tl_gt hki, th_gt hji]
    rcases Nat.le_total k j with hkj | hjk
    · rw [tl_le hkj] at h1
      have w1 := ok.ways (p := i) (q := k) (by omega) hk
      omega
    · by_cases e : k = j
      · subst e
        have := ok.ab k hk hK
        have w1 := ok.ways (p := i) (q := k) (by omega) hk
        omega
      · rw [tl_gt (by omega)] at h1
        have w1 := ok.ways (p := i) (q := j) (by omega) hj
        omega

theorem IsLo.unique {i : Nat} {t u : Int} (h : c.IsLo i t) (g : c.IsLo i u) : t = u := by
  obtain ⟨k, hk, hK, e⟩ := h.some_
  obtain ⟨j, hj, hJ, f⟩ := g.some_
  have := h.ge j hj hJ
  have := g.ge k hk hK
  omega
theorem IsHi.unique {i : Nat} {t u : Int} (h : c.IsHi i t) (g : c.IsHi i u) : t = u := by
  obtain ⟨k, hk, hK, e⟩ := h.some_
  obtain ⟨j, hj, hJ, f⟩ := g.some_
  have := h.le j hj hJ
  have := g.le k hk hK
  omega

/-- The earliest minutes are allowed. -/
theorem NoClash.early (h : c.NoClash) (ok : c.Ok) {e : Nat → Int} (he : ∀ i, i ≤ c.n → c.IsLo i (e i)) : c.Allows e := by
  refine ⟨?_, ?_, ?_⟩
  · obtain ⟨k, hk, hK, e1⟩ := (he 0 (by omega)).some_
    have h1 := (he 0 (by omega)).ge 0 (by omega) ok.known0
    rw [tl_le (Nat.le_refl _)] at h1
    have h2 := (h.tells ok hk (Nat.zero_le _) hK ok.known0).1
    have := ok.a0
    have := ok.b0
    omega
  · intro p hp
    have hs := ok.step p hp
    have g1 := he p (by omega)
    have g2 := he (p + 1) (by omega)
    obtain ⟨k, hk, hK, e1⟩ := g1.some_
    obtain ⟨j, hj, hJ, e2⟩ := g2.some_
    have u1 := g2.ge k hk hK
    have u2 := g1.ge j hj hJ
    constructor
    · by_cases hkp : k ≤ p
      · rw [tl_le hkp] at e1
        rw [tl_le (by omega)] at u1
        omega
      · by_cases hkp' : k ≤ p + 1
        · obtain rfl : k = p + 1 := by omega
          rw [tl_gt hkp] at e1
          rw [tl_le hkp'] at u1
          omega
        · rw [tl_gt hkp] at e1
          rw [tl_gt hkp'] at u1
          omega
    · by_cases hjp : j ≤ p
      · rw [tl_le (by omega)] at e2
        rw [tl_le hjp] at u2
        omega
      · by_cases hjp' : j ≤ p + 1
        · obtain rfl : j = p + 1 := by omega
          rw [tl_le hjp'] at e2
          rw [tl_gt hjp] at u2
          omega
        · rw [tl_gt hjp'] at e2
          rw [tl_gt hjp] at u2
          omega
  · intro p hp hK
    have g := he p hp
    constructor
    · have := g.ge p hp hK
      rw [tl_le (Nat.le_refl _)] at this
      omega
    · obtain ⟨k, hk, hKk, e1⟩ := g.some_
      have := (h.tells ok hk hp hKk hK).1
      omega

/-- The latest minutes are allowed. -/
theorem NoClash.late (h : c.NoClash) (ok : c.Ok) {e : Nat → Int} (he : ∀ i, i ≤ c.n → c.IsHi i (e i)) : c.Allows e := by
  refine ⟨?_, ?_, ?_⟩
  · obtain ⟨k, hk, hK, e1⟩ := (he 0 (by omega)).some_
    have h1 := (he 0 (by omega)).le 0 (by omega) ok.known0
    rw [th_le (Nat.le_refl _)] at h1
    have h2 := (h.tells ok hk (Nat.zero_le _) hK ok.known0).2
    have := ok.a0
    have := ok.b0
    omega
  · intro p hp
    have hs := ok.step p hp
    have g1 := he p (by omega)
    have g2 := he (p + 1) (by omega)
    obtain ⟨k, hk, hK, e1⟩ := g1.some_
    obtain ⟨j, hj, hJ, e2⟩ := g2.some_
    have u1 := g2.le k hk hK
    have u2 := g1.le j hj hJ
    constructor
    · by_cases hjp : j ≤ p
      · rw [th_le (by omega)] at e2
        rw [th_le hjp] at u2
        omega
      · by_cases hjp' : j ≤ p + 1
        · obtain rfl : j = p + 1 := by omega
          rw [th_le hjp'] at e2
          rw [th_gt hjp] at u2
          omega
        · rw [th_gt hjp'] at e2
          rw [th_gt hjp] at u2
          omega
    · by_cases hkp : k ≤ p
      · rw [th_le hkp] at e1
        rw [th_le (by omega)] at u1
        omega
      · by_cases hkp' : k ≤ p + 1
        · obtain rfl : k = p + 1 := by omega
          rw [th_gt hkp] at e1
          rw [th_le hkp'] at u1
          omega
        · rw [th_gt hkp] at e1
          rw [th_gt hkp'] at u1
          omega
  · intro p hp hK
    have g := he p hp
    constructor
    · obtain ⟨k, hk, hKk, e1⟩ := g.some_
      have := (h.tells ok hk hp hKk hK).2
      omega
    · have := g.le p hp hK
      rw [th_le (Nat.le_refl _)] at this
      omega

theorem NoClash.lo_hi (h : c.NoClash) (ok : c.Ok) {i : Nat} (hi : i ≤ c.n) {t u : Int} (ht : c.IsLo i t) (hu : c.IsHi i u) : t ≤ u := by
  obtain ⟨k, hk, hK, e⟩ := ht.some_
  obtain ⟨j, hj, hJ, f⟩ := hu.some_
  have := h.meets ok hk hj hi hK hJ
  omega
end Chain
namespace Chain
variable {c : Chain}

/-- The chain with one event's minute known to be from u to v. -/
def upd (c : Chain) (r : Nat) (u v : Int) : Chain :=
  { c with K := fun p => p = r ∨ c.K p, a := fun p => if p = r then u else c.a p, b := fun p => if p = r then v else c.b p }

theorem upd_ok (ok : c.Ok) {r : Nat} {u v : Int} (hr : 0 < r) (huv : u ≤ v) : (c.upd r u v).Ok := by
  refine ⟨ok.step, .inr ok.known0, ?_, ?_, ?_⟩
  · show (if 0 = r then u else c.a 0) = 0
    rw [if_neg (by omega)]; exact ok.a0
  · show (if 0 = r then v else c.b 0) = 0
    rw [if_neg (by omega)]; exact ok.b0
  · intro p hp hK
    show (if p = r then u else c.a p) ≤ (if p = r then v else c.b p)
    by_cases e : p = r
    · rw [if_pos e, if_pos e]; exact huv
    · rw [if_neg e, if_neg e]
      exact ok.ab p hp (hK.resolve_left e)

/-- What is allowed with the event within the span (a known event's span being narrowed). -/
theorem upd_allows {r : Nat} {u v : Int} (hr : r ≤ c.n) (hn : c.K r → c.a r ≤ u ∧ v ≤ c.b r) {m : Nat → Int} : (c.upd r u v).Allows m ↔ c.Allows m ∧ u ≤ m r ∧ m r ≤ v := by
  constructor
  · intro h
    have hr' := h.at_ r hr (.inl rfl)
    have e1 : (c.upd r u v).a r = u := if_pos rfl
    have e2 : (c.upd r u v).b r = v := if_pos rfl
    rw [e1, e2] at hr'
    refine ⟨⟨h.zero, h.step, fun p hp hK => ?_⟩, hr'⟩
    by_cases e : p = r
    · subst e
      have := hn hK
      omega
    · have h2 := h.at_ p hp (.inr hK)
      have e1 : (c.upd r u v).a p = c.a p := if_neg e
      have e2 : (c.upd r u v).b p = c.b p := if_neg e
      rw [e1, e2] at h2
      exact h2
  · rintro ⟨h, h1, h2⟩
    refine ⟨h.zero, h.step, fun p hp hK => ?_⟩
    show (if p = r then u else c.a p) ≤ m p ∧ m p ≤ (if p = r then v else c.b p)
    by_cases e : p = r
    · subst e
      rw [if_pos rfl, if_pos rfl]
      exact ⟨h1, h2⟩
    · rw [if_neg e, if_neg e]
      exact h.at_ p hp (hK.resolve_left e)

/-- A span within what is told of the event makes no clash. -/
theorem NoClash.upd (h : c.NoClash) (_ok : c.Ok) {r : Nat} (_hr : 0 < r) (hrn : r ≤ c.n) {t t' u v : Int} (ht : c.IsLo r t) (ht' : c.IsHi r t') (h1 : t ≤ v) (h2 : u ≤ t') : (c.upd r u v).NoClash := by
  rintro p q hpq hq ⟨hp, hq', hc⟩
  have hq : q ≤ c.n := hq
  have hc : (if q = r then v else c.b q) < (if p = r then u else c.a p) + (c.L q - c.L p) ∨ (if p = r then v else c.b p) + (c.H q - c.H p) < (if q = r then u else c.a q) := hc
  by_cases ep : p = r
  · subst ep
    have eq : ¬ q = p := by omega
    rw [if_neg eq, if_pos rfl, if_pos rfl, if_neg eq] at hc
    have hKq : c.K q := hq'.resolve_left eq
    have g1 := ht.ge q hq hKq
    have g2 := ht'.le q hq hKq
    rw [tl_gt (by omega)] at g1
    rw [th_gt (by omega)] at g2
    omega
  · by_cases eq : q = r
    · subst eq
      rw [if_pos rfl, if_neg ep, if_neg ep, if_pos rfl] at hc
      have hKp : c.K p := hp.resolve_left ep
      have g1 := ht.ge p (by omega) hKp
      have g2 := ht'.le p (by omega) hKp
      rw [tl_le (by omega)] at g1
      rw [th_le (by omega)] at g2
      omega
    · rw [if_neg eq, if_neg ep, if_neg ep, if_neg eq] at hc
      exact h p q hpq hq ⟨hp.resolve_left ep, hq'.resolve_left eq, hc⟩

/-- Minutes of two events, each within its own, and apart as the way between them allows: both can be had at once. -/
theorem NoClash.two (h : c.NoClash) (ok : c.Ok) {r s : Nat} (hr : 0 < r) (hrs : r < s) (hs : s ≤ c.n) {t t' x x' u v : Int} (ht : c.IsLo r t) (ht' : c.IsHi r t') (hx : c.IsLo s x) (hx' : c.IsHi s x')
    (hu : t ≤ u) (hu' : u ≤ t') (hv : x ≤ v) (hv' : v ≤ x') (hw : c.L s - c.L r ≤ v - u) (hw' : v - u ≤ c.H s - c.H r) : ((c.upd r u u).upd s v v).NoClash := by
  have ok1 := upd_ok ok (r := r) (u := u) (v := u) hr (Int.le_refl _)
  rintro p q hpq hq ⟨hp, hq', hc⟩
  have hq : q ≤ c.n := hq
  have hc : (if q = s then v else if q = r then u else c.b q) < (if p = s then v else if p = r then u else c.a p) + (c.L q - c.L p) ∨ (if p = s then v else if p = r then u else c.b p) + (c.H q - c.H p) < (if q = s then v else if q = r then u else c.a q) := hc
  have hp : p = s ∨ p = r ∨ c.K p := hp
  have hq' : q = s ∨ q = r ∨ c.K q := hq'
  have key : ∀ i, i ≤ c.n → c.K i → (c.tl i r ≤ u ∧ u ≤ c.th i r) ∧ (c.tl i s ≤ v ∧ v ≤ c.th i s) := fun i hi hK => by
    have := ht.ge i hi hK
    have := ht'.le i hi hK
    have := hx.ge i hi hK
    have := hx'.le i hi hK
    omega
  by_cases p1 : p = s
  · subst p1
    have q1 : ¬ q = p := by omega
    have q2 : ¬ q = r := by omega
    have hK : c.K q := (hq'.resolve_left q1).resolve_left q2
    have := (key q hq hK).2
    rw [tl_gt (by omega), th_gt (by omega)] at this
    rw [if_neg q1, if_neg q2, if_pos rfl, if_pos rfl, if_neg q1, if_neg q2] at hc
    omega
  · by_cases p2 : p = r
    · subst p2
      by_cases q1 : q = s
      · subst q1
        rw [if_pos rfl, if_neg p1, if_pos rfl, if_neg p1, if_pos rfl, if_pos rfl] at hc
        omega
      · have q2 : ¬ q = p := by omega
        have hK : c.K q := (hq'.resolve_left q1).resolve_left q2
        have := (key q hq hK).1
        rw [tl_gt (by omega), th_gt (by omega)] at this
        rw [if_neg q1, if_neg q2, if_neg p1, if_pos rfl, if_neg p1, if_pos rfl, if_neg q1, if_neg q2] at hc
        omega
    · have hKp : c.K p := (hp.resolve_left p1).resolve_left p2
      have kp := key p (by omega) hKp
      by_cases q1 : q = s
      · subst q1
        have := kp.2
        rw [tl_le (by omega), th_le (by omega)] at this
        rw [if_pos rfl, if_neg p1, if_neg p2, if_neg p1, if_neg p2, if_pos rfl] at hc
        omega
      · by_cases q2 : q = r
        · subst q2
          have := kp.1
          rw [tl_le (by omega), th_le (by omega)] at this
          rw [if_neg q1, if_pos rfl, if_neg p1, if_neg p2, if_neg p1, if_neg p2, if_neg q1, if_pos rfl] at hc
          omega
        · rw [if_neg q1, if_neg q2, if_neg p1, if_neg p2, if_neg p1, if_neg p2, if_neg q1, if_neg q2] at hc
          exact h p q hpq hq ⟨hKp, (hq'.resolve_left q1).resolve_left q2, hc⟩

/-- The lesser and the greater of two lists that are allowed. -/
theorem Allows.min {m w : Nat → Int} (h : c.Allows m) (g : c.Allows w) : c.Allows (fun i => Min.min (m i) (w i)) := by
  refine ⟨?_, ?_, ?_⟩
  · show Min.min (m 0) (w 0) = 0
    rw [h.zero, g.zero]; rfl
  · intro p hp
    have := h.step p hp
    have := g.step p hp
    show c.L (p + 1) - c.L p ≤ Min.min (m (p + 1)) (w (p + 1)) - Min.min (m p) (w p) ∧ Min.min (m (p + 1)) (w (p + 1)) - Min.min (m p) (w p) ≤ _
    omega
  · intro p hp hK
    have := h.at_ p hp hK
    have := g.at_ p hp hK
    show _ ≤ Min.min (m p) (w p) ∧ Min.min (m p) (w p) ≤ _
    omega
theorem Allows.max {m w : Nat → Int} (h : c.Allows m) (g : c.Allows w) : c.Allows (fun i => Max.max (m i) (w i)) := by
  refine ⟨?_, ?_, ?_⟩
  · show Max.max (m 0) (w 0) = 0
    rw [h.zero, g.zero]; rfl
  · intro p hp
    have := h.step p hp
    have := g.step p hp
    show c.L (p + 1) - c.L p ≤ Max.max (m (p + 1)) (w (p + 1)) - Max.max (m p) (w p) ∧ Max.max (m (p + 1)) (w (p + 1)) - Max.max (m p) (w p) ≤ _
    omega
  · intro p hp hK
    have := h.at_ p hp hK
    have := g.at_ p hp hK
    show _ ≤ Max.max (m p) (w p) ∧ Max.max (m p) (w p) ≤ _
    omega
end Chain

/-! ### a day as a chain -/
def chainOf (d : List S51) : Chain where
  n := d.length
  L p := SL d ((p : Int) - 1)
  H p := SH d ((p : Int) - 1)
  K p := isK d ((p : Int) - 1) = true
  a p := (atOf d ((p : Int) - 1)).f0
  b p := (atOf d ((p : Int) - 1)).f1
theorem chain_ok {d : List S51} (hv : vd d = true) : (chainOf d).Ok := by
  refine ⟨fun p hp => ?_, rfl, rfl, rfl, fun p hp hK => ?_⟩
  · have hp : p < d.length := hp
    have hs := SL_succ d p hp
    have he := evOk_iff.1 ((vd_iff.1 hv).2.2 _ (rd_mem (d := d) (i := (p : Int)) (by omega) (by omega)))
    show SL d ((p : Int) - 1) ≤ SL d (((p + 1 : Nat) : Int) - 1) ∧ SL d (((p + 1 : Nat) : Int) - 1) - SL d ((p : Int) - 1) ≤ SH d (((p + 1 : Nat) : Int) - 1) - SH d ((p : Int) - 1)
    rw [show ((p + 1 : Nat) : Int) - 1 = (p : Int) from by omega]
    omega
  · have hp : p ≤ d.length := hp
    exact (atOf_bound hv (i := (p : Int) - 1) (by omega)).2.2.2.2.1 hK
theorem chain_tl (d : List S51) (k i : Nat) : (chainOf d).tl k i = tlo d ((k : Int) - 1) ((i : Int) - 1) := by
  unfold Chain.tl tlo
  by_cases h : k ≤ i
  · rw [if_pos h, if_pos (by omega)]; rfl
  · rw [if_neg h, if_neg (by omega)]; rfl
theorem chain_th (d : List S51) (k i : Nat) : (chainOf d).th k i = thi d ((k : Int) - 1) ((i : Int) - 1) := by
  unfold Chain.th thi
  by_cases h : k ≤ i
  · rw [if_pos h, if_pos (by omega)]; rfl
  · rw [if_neg h, if_neg (by omega)]; rfl
theorem chain_cannot (d : List S51) (p q : Nat) : (chainOf d).Cannot p q ↔ pairC d ((p : Int) - 1) ((q : Int) - 1) = true := by
  unfold Chain.Cannot pairC cannotB
  simp only [Bool.and_eq_true, Bool.or_eq_true, decide_eq_true_eq]
  exact ⟨fun ⟨h1, h2, h3⟩ => ⟨⟨h1, h2⟩, h3⟩, fun ⟨⟨h1, h2⟩, h3⟩ => ⟨h1, h2, h3⟩⟩
theorem chain_noClash (d : List S51) : (chainOf d).NoClash ↔ (clashOf d).2.2 = false := by
  have hs := clashOf_spec d
  constructor
  · intro h
    cases hc : (clashOf d).2.2 with
    | false => rfl
    | true =>
      obtain ⟨q1, q2, q3, q4, _⟩ := hs.some_ hc
      refine absurd ((chain_cannot d ((clashOf d).1 + 1).toNat ((clashOf d).2.1 + 1).toNat).2 ?_) (h _ _ (by omega) (by show _ ≤ d.length; omega))
      rw [show ((((clashOf d).1 + 1).toNat : Nat) : Int) - 1 = (clashOf d).1 from by omega, show ((((clashOf d).2.1 + 1).toNat : Nat) : Int) - 1 = (clashOf d).2.1 from by omega]
      exact q4
  · intro h p q hpq hq hc
    have hq : q ≤ d.length := hq
    have := (hs.none_ h).2 ((p : Int) - 1) ((q : Int) - 1) (by omega) (by omega) (by omega)
    rw [(chain_cannot d p q).1 hc] at this; cases this
/-- The minutes of position p. -/
def tmP (d : List S51) (p : Nat) : Int × Int := timeB d ((p : Int) - 1)
theorem tmP_succ (d : List S51) (p : Nat) : tmP d (p + 1) = timeOf d (p : Int) := by
  unfold tmP timeB
  rw [show ((p + 1 : Nat) : Int) - 1 = (p : Int) from by omega, if_pos (by omega)]
theorem tmP_of (d : List S51) {i : Int} (hi : 0 ≤ i) : tmP d (i + 1).toNat = timeOf d i := by
  obtain ⟨p, rfl⟩ := Int.eq_ofNat_of_zero_le hi
  exact tmP_succ d p
theorem tmP_B (d : List S51) {i : Int} (hi : -1 ≤ i) : tmP d (i + 1).toNat = timeB d i := by
  unfold tmP
  rw [show (((i + 1).toNat : Nat) : Int) - 1 = i from by omega]
theorem chain_lo {d : List S51} (hv : vd d = true) (hn : (chainOf d).NoClash) {p : Nat} (hp : p ≤ d.length) : (chainOf d).IsLo p (tmP d p).1 := by
  cases p with
  | zero =>
    refine ⟨fun k hk hK => ?_, ⟨0, Nat.zero_le _, rfl, ?_⟩⟩
    · exact (hn.tells (chain_ok hv) hk (Nat.zero_le _) hK rfl).1
    · rw [chain_tl]; unfold tlo; rw [if_pos (Int.le_refl _)]; show (0 : Int) + _ = 0; omega
  | succ p =>
    have hs := timeOf_spec hv (i := (p : Int)) (by omega) (by omega)
    rw [tmP_succ]
    refine ⟨fun k hk hK => ?_, ?_⟩
    · have hk : k ≤ d.length := hk
      rw [chain_tl, show ((p + 1 : Nat) : Int) - 1 = (p : Int) from by omega]
      exact hs.lo _ (by omega) (by omega) hK
    · obtain ⟨j, h1, h2, h3, h4⟩ := hs.lo_
      have e : (((j + 1).toNat : Nat) : Int) - 1 = j := by omega
      refine ⟨(j + 1).toNat, by show _ ≤ d.length; omega, ?_, ?_⟩
      · show isK d _ = true
        rw [e]; exact h3
      · rw [chain_tl, e, show ((p + 1 : Nat) : Int) - 1 = (p : Int) from by omega]; exact h4
theorem chain_hi {d : List S51} (hv : vd d = true) (hn : (chainOf d).NoClash) {p : Nat} (hp : p ≤ d.length) : (chainOf d).IsHi p (tmP d p).2 := by
  cases p with
  | zero =>
    refine ⟨fun k hk hK => ?_, ⟨0, Nat.zero_le _, rfl, ?_⟩⟩
    · exact (hn.tells (chain_ok hv) hk (Nat.zero_le _) hK rfl).2
    · rw [chain_th]; unfold thi; rw [if_pos (Int.le_refl _)]; show (0 : Int) + _ = 0; omega
  | succ p =>
    have hs := timeOf_spec hv (i := (p : Int)) (by omega) (by omega)
    rw [tmP_succ]
    refine ⟨fun k hk hK => ?_, ?_⟩
    · have hk : k ≤ d.length := hk
      rw [chain_th, show ((p + 1 : Nat) : Int) - 1 = (p : Int) from by omega]
      exact hs.hi _ (by omega) (by omega) hK
    · obtain ⟨j, h1, h2, h3, h4⟩ := hs.hi_
      have e : (((j + 1).toNat : Nat) : Int) - 1 = j := by omega
      refine ⟨(j + 1).toNat, by show _ ≤ d.length; omega, ?_, ?_⟩
      · show isK d _ = true
        rw [e]; exact h3
      · rw [chain_th, e, show ((p + 1 : Nat) : Int) - 1 = (p : Int) from by omega]; exact h4
theorem chain_early {d : List S51} (hv : vd d = true) (hn : (chainOf d).NoClash) : (chainOf d).Allows fun p => (tmP d p).1 := hn.early (chain_ok hv) fun _ hp => chain_lo hv hn hp
theorem chain_late {d : List S51} (hv : vd d = true) (hn : (chainOf d).NoClash) : (chainOf d).Allows fun p => (tmP d p).2 := hn.late (chain_ok hv) fun _ hp => chain_hi hv hn hp
theorem chain_le {d : List S51} (hv : vd d = true) (hn : (chainOf d).NoClash) {p : Nat} (hp : p ≤ d.length) : (tmP d p).1 ≤ (tmP d p).2 := hn.lo_hi (chain_ok hv) hp (chain_lo hv hn hp) (chain_hi hv hn hp)
/-- Whatever a valid day allows lies within 0 and 2^24. -/
theorem allows_bound {d : List S51} (hv : vd d = true) {m : Nat → Int} (h : (chainOf d).Allows m) {p : Nat} (hp : p ≤ d.length) : 0 ≤ m p ∧ m p ≤ 16777216 := by
  have hw := h.ways (Nat.zero_le p) hp
  have e1 : (chainOf d).L 0 = 0 := by show SL d (-1) = 0; unfold SL; simp [sLo]
  have e2 : (chainOf d).H 0 = 0 := by show SH d (-1) = 0; unfold SH; simp [sHi]
  rw [e1, e2, h.zero] at hw
  have hb := SL_bound hv ((p : Int) - 1)
  have e3 : (chainOf d).L p = SL d ((p : Int) - 1) := rfl
  have e4 : (chainOf d).H p = SH d ((p : Int) - 1) := rfl
  omega
theorem isK_iff {d : List S51} {i : Int} (hi : 0 ≤ i) : isK d i = true ↔ ¬ ((rd_T51 d i).f1.f0 = 1 ∧ (rd_T51 d i).f1.f1 = 0) := by
  unfold isK
  rw [if_neg (by omega)]
  by_cases h1 : (rd_T51 d i).f1.f0 = 1 <;> by_cases h2 : (rd_T51 d i).f1.f1 = 0 <;> simp [h1, h2]
theorem atOf_nat (d : List S51) (p : Nat) : atOf d (p : Int) = (rd_T51 d (p : Int)).f1 := if_neg (by omega)
/-- What CheckTimes looks at is what the chain allows. -/
theorem allOk_chain {d : List S51} (hv : vd d = true) (l : List Int) : allOk d l = true ↔ (chainOf d).Allows (prevAt l) := by
  rw [allOk_iff]
  constructor
  · intro h
    refine ⟨rfl, fun p hp => ?_, fun p hp hK => ?_⟩
    · have hp : p < d.length := hp
      have hs := SL_succ d p hp
      have := h p hp
      unfold okAt at this
      have := of_decide_eq_true this
      rw [prev_succ]
      show SL d (((p + 1 : Nat) : Int) - 1) - SL d ((p : Int) - 1) ≤ _ ∧ _ ≤ SH d (((p + 1 : Nat) : Int) - 1) - SH d ((p : Int) - 1)
      rw [show ((p + 1 : Nat) : Int) - 1 = (p : Int) from by omega]
      omega
    · have hp : p ≤ d.length := hp
      cases p with
      | zero => exact ⟨Int.le_refl _, Int.le_refl _⟩
      | succ p =>
        have := h p hp
        unfold okAt at this
        have := of_decide_eq_true this
        have hK : isK d (((p + 1 : Nat) : Int) - 1) = true := hK
        rw [prev_succ]
        show (atOf d (((p + 1 : Nat) : Int) - 1)).f0 ≤ _ ∧ _ ≤ (atOf d (((p + 1 : Nat) : Int) - 1)).f1
        rw [show ((p + 1 : Nat) : Int) - 1 = (p : Int) from by omega] at hK ⊢
        rw [atOf_nat]
        exact this.2.2.2.2.resolve_left ((isK_iff (by omega)).1 hK)
  · intro h p hp
    have hs := SL_succ d p hp
    have hb := allows_bound hv h (p := p + 1) hp
    have hst := h.step p hp
    have e1 : (chainOf d).L (p + 1) = SL d (p : Int) := by show SL d (((p + 1 : Nat) : Int) - 1) = _; rw [show ((p + 1 : Nat) : Int) - 1 = (p : Int) from by omega]
    have e2 : (chainOf d).H (p + 1) = SH d (p : Int) := by show SH d (((p + 1 : Nat) : Int) - 1) = _; rw [show ((p + 1 : Nat) : Int) - 1 = (p : Int) from by omega]
    have e3 : (chainOf d).L p = SL d ((p : Int) - 1) := rfl
    have e4 : (chainOf d).H p = SH d ((p : Int) - 1) := rfl
    rw [prev_succ] at hb hst
    unfold okAt
    refine decide_eq_true ⟨hb.1, hb.2, by omega, by omega, ?_⟩
    by_cases hK : isK d (p : Int) = true
    · have ha := h.at_ (p + 1) hp (by show isK d (((p + 1 : Nat) : Int) - 1) = true; rw [show ((p + 1 : Nat) : Int) - 1 = (p : Int) from by omega]; exact hK)
      rw [prev_succ] at ha
      have e5 : (chainOf d).a (p + 1) = (rd_T51 d (p : Int)).f1.f0 := by show (atOf d (((p + 1 : Nat) : Int) - 1)).f0 = _; rw [show ((p + 1 : Nat) : Int) - 1 = (p : Int) from by omega, atOf_nat]
      have e6 : (chainOf d).b (p + 1) = (rd_T51 d (p : Int)).f1.f1 := by show (atOf d (((p + 1 : Nat) : Int) - 1)).f1 = _; rw [show ((p + 1 : Nat) : Int) - 1 = (p : Int) from by omega, atOf_nat]
      rw [e5, e6] at ha
      exact .inr ha
    · exact .inl (Classical.not_not.1 fun hc => hK ((isK_iff (by omega)).2 hc))
theorem check_zero {d : List S51} {l : List Int} : checkOf d l = 0 ↔ vd d = true ∧ l.length = d.length ∧ allOk d l = true := by
  unfold checkOf
  by_cases h1 : vd d = true
  · by_cases h2 : l.length = d.length
    · by_cases h3 : allOk d l = true
      · simp [h1, h2, h3]
      · simp [h1, h2, h3]
    · simp [h1, h2]
  · simp [h1]
theorem check_chain {d : List S51} (hv : vd d = true) {l : List Int} : checkOf d l = 0 ↔ l.length = d.length ∧ (chainOf d).Allows (prevAt l) := by
  rw [check_zero, allOk_chain hv]
  exact ⟨fun h => h.2, fun h => ⟨hv, h⟩⟩
/-- The list of minutes of a sequence. -/
def minutesOf (n : Nat) (m : Nat → Int) : List Int := (List.range n).map fun j => m (j + 1)
theorem minutesOf_length (n : Nat) (m : Nat → Int) : (minutesOf n m).length = n := by simp [minutesOf]
theorem rd_minutesOf {n : Nat} {m : Nat → Int} {p : Nat} (h : p < n) : rd (minutesOf n m) (p : Int) = m (p + 1) := by
  unfold rd minutesOf
  rw [Int.toNat_natCast, List.getD_eq_getElem?_getD, List.getElem?_map, List.getElem?_range h]
  rfl
theorem prev_minutesOf {n : Nat} {m : Nat → Int} (h0 : m 0 = 0) {p : Nat} (h : p ≤ n) : prevAt (minutesOf n m) p = m p := by
  cases p with
  | zero => exact h0.symm
  | succ p => rw [prev_succ, rd_minutesOf h]
theorem allows_congr {c : Chain} {m m' : Nat → Int} (h : ∀ p, p ≤ c.n → m p = m' p) (g : c.Allows m) : c.Allows m' := by
  refine ⟨by rw [← h 0 (Nat.zero_le _)]; exact g.zero, fun p hp => ?_, fun p hp hK => ?_⟩
  · rw [← h p (by omega), ← h (p + 1) hp]; exact g.step p hp
  · rw [← h p hp]; exact g.at_ p hp hK
theorem check_minutesOf {d : List S51} (hv : vd d = true) {m : Nat → Int} (h : (chainOf d).Allows m) : checkOf d (minutesOf d.length m) = 0 :=
  (check_chain hv).2 ⟨minutesOf_length _ _, allows_congr (fun p hp => (prev_minutesOf h.zero hp).symm) h⟩
theorem endsTo_minutesOf (lat : Bool) (d : List S51) : endsTo lat d d.length = minutesOf d.length fun p => endOf lat (tmP d p) := by
  unfold endsTo minutesOf
  refine List.map_congr_left fun j _ => ?_
  show _ = endOf lat (tmP d (j + 1))
  rw [tmP_succ]
/-- The earliest, or the latest, minutes are allowed. -/
theorem check_ends {d : List S51} (hv : vd d = true) (hc : (clashOf d).2.2 = false) (lat : Bool) : checkOf d (endsTo lat d d.length) = 0 := by
  have hn := (chain_noClash d).2 hc
  rw [endsTo_minutesOf]
  cases lat
  · exact check_minutesOf hv (chain_early hv hn)
  · exact check_minutesOf hv (chain_late hv hn)
/-- What is allowed is no clash, and lies within the minutes of each event. -/
theorem check_noClash {d : List S51} {l : List Int} (h : checkOf d l = 0) : (clashOf d).2.2 = false :=
  have hv := (check_zero.1 h).1
  (chain_noClash d).1 ((check_chain hv).1 h).2.noClash
theorem check_within {d : List S51} {l : List Int} (h : checkOf d l = 0) {i : Int} (hi : 0 ≤ i) (hi' : i < d.length) : (timeOf d i).1 ≤ rd l i ∧ rd l i ≤ (timeOf d i).2 := by
  have hv := (check_zero.1 h).1
  have ha := ((check_chain hv).1 h).2
  have hn := ha.noClash
  obtain ⟨p, rfl⟩ := Int.eq_ofNat_of_zero_le hi
  have h1 := ha.lo (i := p + 1) (by show p + 1 ≤ d.length; omega) (chain_lo hv hn (by omega))
  have h2 := ha.hi (i := p + 1) (by show p + 1 ≤ d.length; omega) (chain_hi hv hn (by omega))
  rw [prev_succ, tmP_succ] at h1 h2
  exact ⟨h1, h2⟩
theorem time_range {d : List S51} (hv : vd d = true) (hc : (clashOf d).2.2 = false) {i : Int} (hi : 0 ≤ i) (hi' : i < d.length) : 0 ≤ (timeOf d i).1 ∧ (timeOf d i).1 ≤ (timeOf d i).2 ∧ (timeOf d i).2 ≤ 16777216 := by
  have hn := (chain_noClash d).2 hc
  obtain ⟨p, rfl⟩ := Int.eq_ofNat_of_zero_le hi
  have h1 := allows_bound hv (chain_early hv hn) (p := p + 1) (by omega)
  have h2 := allows_bound hv (chain_late hv hn) (p := p + 1) (by omega)
  have h3 := chain_le hv hn (p := p + 1) (by omega)
  rw [tmP_succ] at h1 h2 h3
  exact ⟨h1.1, h3, h2.2⟩
end Go.Proofs.YtgiihjcpgjpkcaaDoor.Q
