/- Facts of days: what is told between events, what proves a bound, what a day known more narrowly tells; no program in sight. -/
import Derived.Test.YtgiihjcpgjpkcaaDoorHUpd
namespace Go.Proofs.YtgiihjcpgjpkcaaDoor.Q
open Go.RowKit Go.Proofs.YtgiihjcpgjpkcaaDoorW.PrintWords Go.Proofs.YtgiihjcpgjpkcaaDoorW.PrintLast Go.Proofs.YtgiihjcpgjpkcaaDoorW.PrintMore
set_option linter.unusedVariables false
set_option linter.unusedSimpArgs false

theorem timeB_of (d : List S51) {i : Int} (hi : 0 ≤ i) : timeB d i = timeOf d i := if_pos hi
/-- The ends of two events' minutes are as far apart as the way between them allows. -/
theorem ends_way {d : List S51} (hv : vd d = true) (hc : (clashOf d).2.2 = false) {a b : Int} (ha : -1 ≤ a) (hab : a ≤ b) (hb : b < d.length) :
    (SL d b - SL d a ≤ (timeB d b).1 - (timeB d a).1 ∧ (timeB d b).1 - (timeB d a).1 ≤ SH d b - SH d a) ∧ (SL d b - SL d a ≤ (timeB d b).2 - (timeB d a).2 ∧ (timeB d b).2 - (timeB d a).2 ≤ SH d b - SH d a) ∧ (timeB d a).1 ≤ (timeB d a).2 ∧ (timeB d b).1 ≤ (timeB d b).2 := by
  have hn := (chain_noClash d).2 hc
  have h1 := (chain_early hv hn).ways (p := (a + 1).toNat) (q := (b + 1).toNat) (by omega) (by show _ ≤ d.length; omega)
  have h2 := (chain_late hv hn).ways (p := (a + 1).toNat) (q := (b + 1).toNat) (by omega) (by show _ ≤ d.length; omega)
  have h3 := chain_le hv hn (p := (a + 1).toNat) (by omega)
  have h4 := chain_le hv hn (p := (b + 1).toNat) (by omega)
  simp only [tmP_B d ha, tmP_B d (show -1 ≤ b by omega)] at h1 h2 h3 h4
  have e1 : (chainOf d).L (b + 1).toNat = SL d b := by show SL d ((((b + 1).toNat : Nat) : Int) - 1) = _; rw [show (((b + 1).toNat : Nat) : Int) - 1 = b from by omega]
  have e2 : (chainOf d).L (a + 1).toNat = SL d a := by show SL d ((((a + 1).toNat : Nat) : Int) - 1) = _; rw [show (((a + 1).toNat : Nat) : Int) - 1 = a from by omega]
  have e3 : (chainOf d).H (b + 1).toNat = SH d b := by show SH d ((((b + 1).toNat : Nat) : Int) - 1) = _; rw [show (((b + 1).toNat : Nat) : Int) - 1 = b from by omega]
  have e4 : (chainOf d).H (a + 1).toNat = SH d a := by show SH d ((((a + 1).toNat : Nat) : Int) - 1) = _; rw [show (((a + 1).toNat : Nat) : Int) - 1 = a from by omega]
  rw [e1, e2, e3, e4] at h1 h2
  exact ⟨h1, h2, h3, h4⟩
theorem between_max (d : List S51) (a b : Int) : betweenOf d a b = (max (SL d b - SL d a) ((timeOf d b).1 - (timeB d a).2), min (SH d b - SH d a) ((timeOf d b).2 - (timeB d a).1)) := by
  unfold betweenOf
  rw [mx_max, mn_min]
theorem between_le {d : List S51} (hv : vd d = true) (hc : (clashOf d).2.2 = false) {a b : Int} (ha : -1 ≤ a) (hab : a < b) (hb : b < d.length) : (betweenOf d a b).1 ≤ (betweenOf d a b).2 := by
  obtain ⟨h1, h2, h3, h4⟩ := ends_way hv hc ha (by omega) hb
  rw [timeB_of d (i := b) (by omega)] at h1 h2 h4
  have hw := way_bound hv (a := a) (b := b) (by omega)
  rw [between_max]
  simp only
  omega
theorem SL_beg (d : List S51) : SL d (-1) = 0 ∧ SH d (-1) = 0 := ⟨by unfold SL; simp [sLo], by unfold SH; simp [sHi]⟩
/-- From the beginning it is the minutes themselves. -/
theorem between_beg {d : List S51} (hv : vd d = true) (hc : (clashOf d).2.2 = false) {b : Int} (hb0 : 0 ≤ b) (hb : b < d.length) : betweenOf d (-1) b = timeOf d b := by
  obtain ⟨h1, h2, h3, h4⟩ := ends_way hv hc (a := -1) (b := b) (by omega) (by omega) hb
  rw [timeB_of d hb0] at h1 h2
  have e : timeB d (-1) = (0, 0) := rfl
  rw [between_max]
  rw [e] at h1 h2 ⊢
  simp only at h1 h2 ⊢
  exact Prod.ext (by simp only; omega) (by simp only; omega)

/-! ### proofs of bounds -/
theorem proof_ok {d : List S51} (hv : vd d = true) {i : Int} (hi : 0 ≤ i) (hi' : i < d.length) (lat : Bool) : checkProofOf d i lat (boundOf d i lat) (firstOf d i lat (boundOf d i lat)) = 0 := by
  obtain ⟨h1, h2, h3, h4, _⟩ := firstOf_spec (bound_proved hv hi hi' lat)
  unfold checkProofOf
  rw [if_pos hv, if_pos ⟨hi, hi', h1, h2⟩, h3, h4]
  rfl
theorem checkProof_zero {d : List S51} {i : Int} {lat : Bool} {bound by_ : Int} (h : checkProofOf d i lat bound by_ = 0) : vd d = true ∧ (0 ≤ i ∧ i < d.length ∧ -1 ≤ by_ ∧ by_ < d.length) ∧ isK d by_ = true ∧ prv d i lat bound by_ = true := by
  unfold checkProofOf at h
  by_cases hv : vd d = true
  · rw [if_pos hv] at h
    by_cases hi : 0 ≤ i ∧ i < d.length ∧ -1 ≤ by_ ∧ by_ < d.length
    · rw [if_pos hi] at h
      by_cases hp : (isK d by_ && prv d i lat bound by_) = true
      · rw [Bool.and_eq_true] at hp
        exact ⟨hv, hi, hp.1, hp.2⟩
      · rw [if_neg hp] at h; omega
    · rw [if_neg hi] at h; omega
  · rw [if_neg hv] at h; omega
theorem proof_lo {d : List S51} {i bound by_ : Int} (h : checkProofOf d i false bound by_ = 0) : bound ≤ (timeOf d i).1 := by
  obtain ⟨hv, ⟨h1, h2, h3, h4⟩, hK, hp⟩ := checkProof_zero h
  have hs := (timeOf_spec hv h1 h2).lo by_ h3 h4 hK
  unfold prv at hp
  simp only [Bool.false_eq_true, if_false, decide_eq_true_eq] at hp
  omega
theorem proof_hi {d : List S51} {i bound by_ : Int} (h : checkProofOf d i true bound by_ = 0) : (timeOf d i).2 ≤ bound := by
  obtain ⟨hv, ⟨h1, h2, h3, h4⟩, hK, hp⟩ := checkProof_zero h
  have hs := (timeOf_spec hv h1 h2).hi by_ h3 h4 hK
  unfold prv at hp
  simp only [if_true, decide_eq_true_eq] at hp
  omega
theorem readyA_31 {d : List S51} {i : Int} (hv : vd d = true) (hi : 0 ≤ i ∧ i < d.length) : readyA d i = if (clashOf d).2.2 = true then 31 else 0 := by
  unfold readyA
  rw [if_pos hv, if_pos hi]

/-! ### days that allow less -/
theorem tmP_mono {d e : List S51} (hv : vd d = true) (hv' : vd e = true) (hl : e.length = d.length) (hc' : (clashOf e).2.2 = false) (h : ∀ m, (chainOf e).Allows m → (chainOf d).Allows m) :
    (clashOf d).2.2 = false ∧ ∀ p, p ≤ d.length → (tmP d p).1 ≤ (tmP e p).1 ∧ (tmP e p).2 ≤ (tmP d p).2 := by
  have hn' := (chain_noClash e).2 hc'
  have h1 := h _ (chain_early hv' hn')
  have h2 := h _ (chain_late hv' hn')
  have hn := h1.noClash
  exact ⟨(chain_noClash d).1 hn, fun p hp => ⟨h1.lo hp (chain_lo hv hn hp), h2.hi hp (chain_hi hv hn hp)⟩⟩

/-! ### Known -/
structure KnownFacts (d : List S51) (i x0 x1 : Int) : Prop where
  vdk : vd (withAt d i (narrowedAt (rd_T51 d i) x0 x1)) = true
  le : (narrowedAt (rd_T51 d i) x0 x1).1 ≤ (narrowedAt (rd_T51 d i) x0 x1).2
  allows : ∀ m, (chainOf (withAt d i (narrowedAt (rd_T51 d i) x0 x1))).Allows m ↔ (chainOf d).Allows m ∧ x0 ≤ m (i + 1).toNat ∧ m (i + 1).toNat ≤ x1
theorem knownErr_zero {d : List S51} {i x0 x1 : Int} (h : knownErr d i x0 x1 = 0) : vd d = true ∧ (0 ≤ i ∧ i < d.length) ∧ (0 ≤ x0 ∧ x0 ≤ x1 ∧ x1 ≤ 16777216) ∧ (narrowedAt (rd_T51 d i) x0 x1).1 ≤ (narrowedAt (rd_T51 d i) x0 x1).2 := by
  unfold knownErr at h
  by_cases hv : vd d = true
  · rw [if_pos hv] at h
    by_cases hi : 0 ≤ i ∧ i < d.length
    · rw [if_pos hi] at h
      by_cases hx : 0 ≤ x0 ∧ x0 ≤ x1 ∧ x1 ≤ 16777216
      · rw [if_pos hx] at h
        by_cases hn : (narrowedAt (rd_T51 d i) x0 x1).1 > (narrowedAt (rd_T51 d i) x0 x1).2
        · rw [if_pos hn] at h; omega
        · exact ⟨hv, hi, hx, by omega⟩
      · rw [if_neg hx] at h; omega
    · rw [if_neg hi] at h; omega
  · rw [if_neg hv] at h; omega
theorem narrowed_cases (d : List S51) (p : Nat) (x0 x1 : Int) :
    (isK d (p : Int) = false ∧ narrowedAt (rd_T51 d (p : Int)) x0 x1 = (x0, x1)) ∨ (isK d (p : Int) = true ∧ narrowedAt (rd_T51 d (p : Int)) x0 x1 = (max (rd_T51 d (p : Int)).f1.f0 x0, min (rd_T51 d (p : Int)).f1.f1 x1)) := by
  unfold narrowedAt
  by_cases h : (rd_T51 d (p : Int)).f1.f0 = 1 ∧ (rd_T51 d (p : Int)).f1.f1 = 0
  · rw [if_pos h]
    refine .inl ⟨Bool.eq_false_iff.2 fun hK => (isK_iff (by omega)).1 hK h, rfl⟩
  · rw [if_neg h, mx_max, mn_min]
    exact .inr ⟨(isK_iff (by omega)).2 h, rfl⟩
theorem knownFacts {d : List S51} {i x0 x1 : Int} (h : knownErr d i x0 x1 = 0) : KnownFacts d i x0 x1 := by
  obtain ⟨hv, hi, hx, hle⟩ := knownErr_zero h
  obtain ⟨p, rfl⟩ := Int.eq_ofNat_of_zero_le hi.1
  have hp : p < d.length := by omega
  have hx2 := evOk_iff.1 (rd_ok hv hp)
  have hcs := narrowed_cases d p x0 x1
  have hK : isK d (p : Int) = true ↔ ¬ ((rd_T51 d (p : Int)).f1.f0 = 1 ∧ (rd_T51 d (p : Int)).f1.f1 = 0) := isK_iff (by omega)
  generalize hN : narrowedAt (rd_T51 d (p : Int)) x0 x1 = n at *
  obtain ⟨u, v⟩ := n
  simp only at hle
  refine ⟨?_, ?_, fun m => ?_⟩
  · rw [hN]
    refine vd_withAt hv hp ?_
    rcases hcs with ⟨k1, k2⟩ | ⟨k1, k2⟩
    · obtain ⟨rfl, rfl⟩ := Prod.mk.inj k2; exact hx
    · obtain ⟨rfl, rfl⟩ := Prod.mk.inj k2
      have := hK.1 k1
      omega
  · rw [hN]; exact hle
  · rw [hN, chain_withAt hp hle, show ((p : Int) + 1).toNat = p + 1 from by omega]
    have ea : (chainOf d).a (p + 1) = (rd_T51 d (p : Int)).f1.f0 := by show (atOf d (((p + 1 : Nat) : Int) - 1)).f0 = _; rw [show ((p + 1 : Nat) : Int) - 1 = (p : Int) from by omega, atOf_nat]
    have eb : (chainOf d).b (p + 1) = (rd_T51 d (p : Int)).f1.f1 := by show (atOf d (((p + 1 : Nat) : Int) - 1)).f1 = _; rw [show ((p + 1 : Nat) : Int) - 1 = (p : Int) from by omega, atOf_nat]
    have eK : (chainOf d).K (p + 1) ↔ isK d (p : Int) = true := by show isK d (((p + 1 : Nat) : Int) - 1) = true ↔ _; rw [show ((p + 1 : Nat) : Int) - 1 = (p : Int) from by omega]
    rw [Chain.upd_allows (c := chainOf d) (r := p + 1) (by show p + 1 ≤ d.length; omega) (fun hk => by
      rw [eK] at hk
      rcases hcs with ⟨k1, k2⟩ | ⟨k1, k2⟩
      · rw [hk] at k1; cases k1
      · obtain ⟨rfl, rfl⟩ := Prod.mk.inj k2
        rw [ea, eb]
        omega)]
    refine and_congr_right fun ha => ?_
    rcases hcs with ⟨k1, k2⟩ | ⟨k1, k2⟩
    · obtain ⟨rfl, rfl⟩ := Prod.mk.inj k2; exact Iff.rfl
    · obtain ⟨rfl, rfl⟩ := Prod.mk.inj k2
      have := ha.at_ (p + 1) (by show p + 1 ≤ d.length; omega) (eK.2 k1)
      rw [ea, eb] at this
      omega
theorem known_check {d : List S51} {i x0 x1 : Int} (h : knownErr d i x0 x1 = 0) (l : List Int) : checkOf (withAt d i (narrowedAt (rd_T51 d i) x0 x1)) l = 0 ↔ checkOf d l = 0 ∧ x0 ≤ rd l i ∧ rd l i ≤ x1 := by
  obtain ⟨hv, hi, hx, hle⟩ := knownErr_zero h
  obtain ⟨f1, f2, f3⟩ := knownFacts h
  rw [check_chain f1, check_chain hv, f3, withAt_length]
  obtain ⟨p, rfl⟩ := Int.eq_ofNat_of_zero_le hi.1
  rw [show ((p : Int) + 1).toNat = p + 1 from by omega, prev_succ]
  exact and_assoc.symm
theorem known_narrower {d : List S51} {i x0 x1 : Int} (h : knownErr d i x0 x1 = 0) (hc : (clashOf (withAt d i (narrowedAt (rd_T51 d i) x0 x1))).2.2 = false) :
    (clashOf d).2.2 = false ∧ ∀ j : Int, -1 ≤ j → j < d.length → (timeB d j).1 ≤ (timeB (withAt d i (narrowedAt (rd_T51 d i) x0 x1)) j).1 ∧ (timeB (withAt d i (narrowedAt (rd_T51 d i) x0 x1)) j).2 ≤ (timeB d j).2 := by
  obtain ⟨hv, hi, hx, hle⟩ := knownErr_zero h
  obtain ⟨f1, f2, f3⟩ := knownFacts h
  obtain ⟨g1, g2⟩ := tmP_mono hv f1 (withAt_length _ _ _) hc (fun m hm => ((f3 m).1 hm).1)
  refine ⟨g1, fun j h1 h2 => ?_⟩
  have := g2 (j + 1).toNat (by omega)
  rwa [tmP_B d h1, tmP_B _ h1] at this
theorem withAt_SL {d : List S51} {i : Int} (hi : 0 ≤ i ∧ i < d.length) (u : Int × Int) (j : Int) : SL (withAt d i u) j = SL d j ∧ SH (withAt d i u) j = SH d j := by
  obtain ⟨p, rfl⟩ := Int.eq_ofNat_of_zero_le hi.1
  exact SL_congr (withAt_map (by omega) u) j
theorem known_between {d : List S51} {i x0 x1 : Int} (h : knownErr d i x0 x1 = 0) (hc : (clashOf (withAt d i (narrowedAt (rd_T51 d i) x0 x1))).2.2 = false) {a b : Int} (ha : -1 ≤ a) (hab : a < b) (hb : b < d.length) :
    (betweenOf d a b).1 ≤ (betweenOf (withAt d i (narrowedAt (rd_T51 d i) x0 x1)) a b).1 ∧ (betweenOf (withAt d i (narrowedAt (rd_T51 d i) x0 x1)) a b).2 ≤ (betweenOf d a b).2 := by
  obtain ⟨hv, hi, hx, hle⟩ := knownErr_zero h
  obtain ⟨g1, g2⟩ := known_narrower h hc
  have s1 := withAt_SL hi (narrowedAt (rd_T51 d i) x0 x1) a
  have s2 := withAt_SL hi (narrowedAt (rd_T51 d i) x0 x1) b
  have t1 := g2 a ha (by omega)
  have t2 := g2 b (by omega) hb
  rw [timeB_of d (i := b) (by omega), timeB_of _ (i := b) (by omega)] at t2
  rw [between_max, between_max, s1.1, s1.2, s2.1, s2.2]
  simp only
  omega

/-! ### a number of minutes between two events is had -/
theorem had {d : List S51} (hv : vd d = true) (hc : (clashOf d).2.2 = false) {a b : Int} (ha : 0 ≤ a) (hab : a < b) (hb : b < d.length) {n : Int} (h1 : (betweenOf d a b).1 ≤ n) (h2 : n ≤ (betweenOf d a b).2) :
    knownErr d a (max (timeOf d a).1 ((timeOf d b).1 - n)) (max (timeOf d a).1 ((timeOf d b).1 - n)) = 0 ∧
    narrowedAt (rd_T51 d a) (max (timeOf d a).1 ((timeOf d b).1 - n)) (max (timeOf d a).1 ((timeOf d b).1 - n)) = (max (timeOf d a).1 ((timeOf d b).1 - n), max (timeOf d a).1 ((timeOf d b).1 - n)) ∧
    vd (withAt d a (max (timeOf d a).1 ((timeOf d b).1 - n), max (timeOf d a).1 ((timeOf d b).1 - n))) = true ∧
    (clashOf (withAt d a (max (timeOf d a).1 ((timeOf d b).1 - n), max (timeOf d a).1 ((timeOf d b).1 - n)))).2.2 = false ∧
    (timeOf (withAt d a (max (timeOf d a).1 ((timeOf d b).1 - n), max (timeOf d a).1 ((timeOf d b).1 - n))) b).1 ≤ max (timeOf d a).1 ((timeOf d b).1 - n) + n ∧
    max (timeOf d a).1 ((timeOf d b).1 - n) + n ≤ (timeOf (withAt d a (max (timeOf d a).1 ((timeOf d b).1 - n), max (timeOf d a).1 ((timeOf d b).1 - n))) b).2 := by
  obtain ⟨w1, w2, w3, w4⟩ := ends_way hv hc (a := a) (b := b) (by omega) (by omega) hb
  rw [between_max] at h1 h2
  rw [timeB_of d ha] at w1 w2 w3 h1 h2
  rw [timeB_of d (i := b) (by omega)] at w1 w2 w4
  simp only at h1 h2
  have ra := time_range hv hc ha (by omega)
  have rb := time_range hv hc (i := b) (by omega) hb
  have hn := (chain_noClash d).2 hc
  obtain ⟨p, rfl⟩ := Int.eq_ofNat_of_zero_le ha
  obtain ⟨q, rfl⟩ := Int.eq_ofNat_of_zero_le (show 0 ≤ b by omega)
  have hp : p < d.length := by omega
  have hq : q < d.length := by omega
  generalize hu : max (timeOf d (p : Int)).1 ((timeOf d (q : Int)).1 - n) = u
  have u1 : (timeOf d (p : Int)).1 ≤ u := by omega
  have u2 : u ≤ (timeOf d (p : Int)).2 := by omega
  have v1 : (timeOf d (q : Int)).1 ≤ u + n := by omega
  have v2 : u + n ≤ (timeOf d (q : Int)).2 := by omega
  have hcs := narrowed_cases d p u u
  have eK : (chainOf d).K (p + 1) ↔ isK d (p : Int) = true := by show isK d (((p + 1 : Nat) : Int) - 1) = true ↔ _; rw [show ((p + 1 : Nat) : Int) - 1 = (p : Int) from by omega]
  have ea : (chainOf d).a (p + 1) = (rd_T51 d (p : Int)).f1.f0 := by show (atOf d (((p + 1 : Nat) : Int) - 1)).f0 = _; rw [show ((p + 1 : Nat) : Int) - 1 = (p : Int) from by omega, atOf_nat]
  have eb : (chainOf d).b (p + 1) = (rd_T51 d (p : Int)).f1.f1 := by show (atOf d (((p + 1 : Nat) : Int) - 1)).f1 = _; rw [show ((p + 1 : Nat) : Int) - 1 = (p : Int) from by omega, atOf_nat]
  have hE := chain_early hv hn
  have hL := chain_late hv hn
  have hnar : narrowedAt (rd_T51 d (p : Int)) u u = (u, u) := by
    rcases hcs with ⟨k1, k2⟩ | ⟨k1, k2⟩
    · exact k2
    · have g1 := hE.at_ (p + 1) (by show p + 1 ≤ d.length; omega) (eK.2 k1)
      have g2 := hL.at_ (p + 1) (by show p + 1 ≤ d.length; omega) (eK.2 k1)
      rw [ea, eb] at g1 g2
      simp only [tmP_succ] at g1 g2
      rw [k2]
      exact Prod.ext (by simp only; omega) (by simp only; omega)
  have one := one_ready hv hc hp u1 u2
  refine ⟨?_, hnar, one.1, one.2, ?_⟩
  · unfold knownErr
    rw [if_pos hv, if_pos ⟨by omega, by omega⟩, if_pos ⟨by omega, by omega, by omega⟩, hnar, if_neg (by simp only; omega)]
  · have hn1 := (chain_noClash _).2 one.2
    have lo1 := chain_lo hv hn (p := p + 1) (by omega)
    have hi1 := chain_hi hv hn (p := p + 1) (by omega)
    have lo2 := chain_lo hv hn (p := q + 1) (by omega)
    have hi2 := chain_hi hv hn (p := q + 1) (by omega)
    rw [tmP_succ] at lo1 hi1 lo2 hi2
    have e1 : (chainOf d).L (p + 1) = SL d (p : Int) := by show SL d (((p + 1 : Nat) : Int) - 1) = _; rw [show ((p + 1 : Nat) : Int) - 1 = (p : Int) from by omega]
    have e2 : (chainOf d).L (q + 1) = SL d (q : Int) := by show SL d (((q + 1 : Nat) : Int) - 1) = _; rw [show ((q + 1 : Nat) : Int) - 1 = (q : Int) from by omega]
    have e3 : (chainOf d).H (p + 1) = SH d (p : Int) := by show SH d (((p + 1 : Nat) : Int) - 1) = _; rw [show ((p + 1 : Nat) : Int) - 1 = (p : Int) from by omega]
    have e4 : (chainOf d).H (q + 1) = SH d (q : Int) := by show SH d (((q + 1 : Nat) : Int) - 1) = _; rw [show ((q + 1 : Nat) : Int) - 1 = (q : Int) from by omega]
    have h2n := hn.two (chain_ok hv) (r := p + 1) (s := q + 1) (u := u) (v := u + n) (by omega) (by omega) (by show q + 1 ≤ d.length; omega) lo1 hi1 lo2 hi2 u1 u2 v1 v2 (by rw [e1, e2]; omega) (by rw [e3, e4]; omega)
    -- the day with both minutes set
    have hq' : q < (withAt d (p : Int) (u, u)).length := by rw [withAt_length]; exact hq
    have vd2 : vd (withAt (withAt d (p : Int) (u, u)) (q : Int) (u + n, u + n)) = true := vd_withAt one.1 hq' (by omega)
    have ch2 : chainOf (withAt (withAt d (p : Int) (u, u)) (q : Int) (u + n, u + n)) = ((chainOf d).upd (p + 1) u u).upd (q + 1) (u + n) (u + n) := by rw [chain_withAt hq' (Int.le_refl _), chain_withAt hp (Int.le_refl _)]
    have hE2 := chain_early vd2 (by rw [ch2]; exact h2n)
    rw [ch2] at hE2
    have hal := (Chain.upd_allows (c := (chainOf d).upd (p + 1) u u) (r := q + 1) (u := u + n) (v := u + n) (by show q + 1 ≤ d.length; omega) (fun hK => by
      have hK : q + 1 = p + 1 ∨ (chainOf d).K (q + 1) := hK
      have hK := hK.resolve_left (by omega)
      have g1 := hE.at_ (q + 1) (by show q + 1 ≤ d.length; omega) hK
      have g2 := hL.at_ (q + 1) (by show q + 1 ≤ d.length; omega) hK
      simp only [tmP_succ] at g1 g2
      have f1 : ((chainOf d).upd (p + 1) u u).a (q + 1) = (chainOf d).a (q + 1) := if_neg (by omega)
      have f2 : ((chainOf d).upd (p + 1) u u).b (q + 1) = (chainOf d).b (q + 1) := if_neg (by omega)
      rw [f1, f2]
      omega)).1 hE2
    rw [← chain_withAt hp (Int.le_refl _)] at hal
    have c1 := hal.1.lo (i := q + 1) (by show q + 1 ≤ (withAt d (p : Int) (u, u)).length; omega) (chain_lo one.1 hn1 (by omega))
    have c2 := hal.1.hi (i := q + 1) (by show q + 1 ≤ (withAt d (p : Int) (u, u)).length; omega) (chain_hi one.1 hn1 (by omega))
    have c3 := hal.2
    simp only [tmP_succ] at c1 c2 c3
    omega
end Go.Proofs.YtgiihjcpgjpkcaaDoor.Q
