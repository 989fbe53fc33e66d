/- What Closed tells: a day with all spans as they can be allows the same minutes, and closed again it is the same; no program in sight. -/
import Derived.Test.YtgiihjcpgjpkcaaDoorHUpd
namespace Go.Proofs.YtgiihjcpgjpkcaaDoor.Q
open Go.RowKit Go.Proofs.YtgiihjcpgjpkcaaDoorW.PrintWords Go.Proofs.YtgiihjcpgjpkcaaDoorW.PrintLast Go.Proofs.YtgiihjcpgjpkcaaDoorW.PrintMore
set_option linter.unusedVariables false
set_option linter.unusedSimpArgs false

def closedOf (d : List S51) : List S51 := (List.range d.length).map fun (j : Nat) => ⟨⟨(betweenOf d ((j : Int) - 1) (j : Int)).1, (betweenOf d ((j : Int) - 1) (j : Int)).2⟩, ⟨(timeOf d (j : Int)).1, (timeOf d (j : Int)).2⟩⟩
def closedTo (d : List S51) (n : Nat) : List S51 := (List.range n).map fun (j : Nat) => ⟨⟨(betweenOf d ((j : Int) - 1) (j : Int)).1, (betweenOf d ((j : Int) - 1) (j : Int)).2⟩, ⟨(timeOf d (j : Int)).1, (timeOf d (j : Int)).2⟩⟩
theorem closedTo_succ (d : List S51) (n : Nat) : closedTo d (n + 1) = closedTo d n ++ [⟨⟨(betweenOf d ((n : Int) - 1) (n : Int)).1, (betweenOf d ((n : Int) - 1) (n : Int)).2⟩, ⟨(timeOf d (n : Int)).1, (timeOf d (n : Int)).2⟩⟩] := by simp [closedTo, List.range_succ]
theorem closedTo_length (d : List S51) (n : Nat) : (closedTo d n).length = n := by simp [closedTo]
theorem closedOf_length (d : List S51) : (closedOf d).length = d.length := by simp [closedOf]
theorem pClosed_l0 {d : List S51} (hv : vd d = true) : ∀ (m k n : Nat), d.length = n + m → m + 200 ≤ k → refill_Closed.l0 k d (closedTo d n) d.length n = some (closedOf d, 0)
  | 0, k, n, hn, hk => by
    obtain ⟨k, rfl⟩ : ∃ m, k = m + 1 := ⟨k - 1, by omega⟩
    simp only [refill_Closed.l0]
    obtain rfl : d.length = n := by omega
    rw [if_neg (by omega)]
    rfl
  | m + 1, k, n, hn, hk => by
    obtain ⟨k, rfl⟩ : ∃ m, k = m + 1 := ⟨k - 1, by omega⟩
    have hl32 := (vd_iff.1 hv).2.1
    have ih := pClosed_l0 hv m k (n + 1) (by omega) (by omega)
    have ht : refill_time.f d (n : Int) = some (timeOf d (n : Int)) := by unfold refill_time.f; rw [if_pos ⟨hv, by omega, by omega⟩]
    simp only [refill_Closed.l0]
    rw [if_pos (by omega), show wrap64 ((n : Int) - 1) = (n : Int) - 1 from by unfold wrap64; omega, between_eq hv (by omega) (by omega) (by omega) k (by omega), ht, show wrap64 ((n : Int) + 1) = ((n + 1 : Nat) : Int) from by unfold wrap64; omega]
    simp only [Option.bind_some]
    rw [if_pos (by rw [closedTo_length]; omega), ← closedTo_succ]
    exact ih
theorem pClosed_eq (d : List S51) (k : Nat) (hk : 2000 ≤ k) : refill_Closed.f k d = some (if readyE d = 0 then closedOf d else [], readyE d) := by
  unfold refill_Closed.f
  rw [ready_E d k (by omega)]
  simp only [Option.bind_some]
  by_cases h : readyE d = 0
  · obtain ⟨hv, hc⟩ := readyE_zero h
    have hl32 := (vd_iff.1 hv).2.1
    rw [if_pos h, if_pos h, h]
    exact pClosed_l0 hv d.length k 0 (by omega) (by omega)
  · rw [if_neg h, if_neg h]
theorem closed_rd {d : List S51} {p : Nat} (h : p < d.length) : rd_T51 (closedOf d) (p : Int) = ⟨⟨(betweenOf d ((p : Int) - 1) (p : Int)).1, (betweenOf d ((p : Int) - 1) (p : Int)).2⟩, ⟨(timeOf d (p : Int)).1, (timeOf d (p : Int)).2⟩⟩ := by
  unfold rd_T51 closedOf
  rw [Int.toNat_natCast, List.getD_eq_getElem?_getD, List.getElem?_map, List.getElem?_range h]
  rfl
/-- The minutes between an event and the one ahead. -/
theorem between_step {d : List S51} {p : Nat} (h : p < d.length) : betweenOf d ((p : Int) - 1) (p : Int) = (max (rd_T51 d (p : Int)).f0.f0 ((tmP d (p + 1)).1 - (tmP d p).2), min (rd_T51 d (p : Int)).f0.f1 ((tmP d (p + 1)).2 - (tmP d p).1)) := by
  have hs := SL_succ d p h
  unfold betweenOf
  rw [mx_max, mn_min, tmP_succ]
  unfold tmP
  rw [show SL d (p : Int) - SL d ((p : Int) - 1) = (rd_T51 d (p : Int)).f0.f0 from by omega, show SH d (p : Int) - SH d ((p : Int) - 1) = (rd_T51 d (p : Int)).f0.f1 from by omega]
structure StepFacts (d : List S51) (p : Nat) : Prop where
  ev : 0 ≤ (rd_T51 d (p : Int)).f0.f0 ∧ (rd_T51 d (p : Int)).f0.f0 ≤ (rd_T51 d (p : Int)).f0.f1 ∧ (rd_T51 d (p : Int)).f0.f1 ≤ 524288
  early : (rd_T51 d (p : Int)).f0.f0 ≤ (tmP d (p + 1)).1 - (tmP d p).1 ∧ (tmP d (p + 1)).1 - (tmP d p).1 ≤ (rd_T51 d (p : Int)).f0.f1
  late : (rd_T51 d (p : Int)).f0.f0 ≤ (tmP d (p + 1)).2 - (tmP d p).2 ∧ (tmP d (p + 1)).2 - (tmP d p).2 ≤ (rd_T51 d (p : Int)).f0.f1
  le0 : (tmP d p).1 ≤ (tmP d p).2
  le1 : (tmP d (p + 1)).1 ≤ (tmP d (p + 1)).2
  rng : 0 ≤ (tmP d (p + 1)).1 ∧ (tmP d (p + 1)).2 ≤ 16777216
theorem stepFacts {d : List S51} (hv : vd d = true) (hc : (clashOf d).2.2 = false) {p : Nat} (h : p < d.length) : StepFacts d p := by
  have hn := (chain_noClash d).2 hc
  have hs := SL_succ d p h
  have he := (chain_early hv hn).step p h
  have hl := (chain_late hv hn).step p h
  have e1 : (chainOf d).L (p + 1) - (chainOf d).L p = (rd_T51 d (p : Int)).f0.f0 := by show SL d (((p + 1 : Nat) : Int) - 1) - SL d ((p : Int) - 1) = _; rw [show ((p + 1 : Nat) : Int) - 1 = (p : Int) from by omega]; omega
  have e2 : (chainOf d).H (p + 1) - (chainOf d).H p = (rd_T51 d (p : Int)).f0.f1 := by show SH d (((p + 1 : Nat) : Int) - 1) - SH d ((p : Int) - 1) = _; rw [show ((p + 1 : Nat) : Int) - 1 = (p : Int) from by omega]; omega
  rw [e1, e2] at he hl
  have hx := evOk_iff.1 (rd_ok hv h)
  have r1 := allows_bound hv (chain_early hv hn) (p := p + 1) (by omega)
  have r2 := allows_bound hv (chain_late hv hn) (p := p + 1) (by omega)
  exact ⟨⟨hx.1, hx.2.1, hx.2.2.1⟩, he, hl, chain_le hv hn (by omega), chain_le hv hn (by omega), r1.1, r2.2⟩
theorem closed_vd {d : List S51} (hv : vd d = true) (hc : (clashOf d).2.2 = false) : vd (closedOf d) = true := by
  obtain ⟨h1, h2, h3⟩ := vd_iff.1 hv
  refine vd_iff.2 ⟨by rw [closedOf_length]; exact h1, by rw [closedOf_length]; exact h2, fun e he => ?_⟩
  unfold closedOf at he
  obtain ⟨p, hp, rfl⟩ := List.mem_map.1 he
  have hp := List.mem_range.1 hp
  obtain ⟨f1, f2, f3, f4, f5, f6⟩ := stepFacts hv hc hp
  rw [between_step hp, ← tmP_succ]
  refine evOk_iff.2 ?_
  simp only
  omega
theorem closed_step {d : List S51} {p : Nat} (h : p < d.length) : SL (closedOf d) (p : Int) = SL (closedOf d) ((p : Int) - 1) + max (rd_T51 d (p : Int)).f0.f0 ((tmP d (p + 1)).1 - (tmP d p).2) ∧ SH (closedOf d) (p : Int) = SH (closedOf d) ((p : Int) - 1) + min (rd_T51 d (p : Int)).f0.f1 ((tmP d (p + 1)).2 - (tmP d p).1) := by
  have hs := SL_succ (closedOf d) p (by rw [closedOf_length]; exact h)
  rw [closed_rd h, between_step h] at hs
  exact hs
theorem closed_known {d : List S51} (hv : vd d = true) (hc : (clashOf d).2.2 = false) {p : Nat} (h : p < d.length) : isK (closedOf d) (p : Int) = true ∧ atOf (closedOf d) (p : Int) = ⟨(tmP d (p + 1)).1, (tmP d (p + 1)).2⟩ := by
  have ha : atOf (closedOf d) (p : Int) = ⟨(tmP d (p + 1)).1, (tmP d (p + 1)).2⟩ := by rw [atOf_nat, closed_rd h, tmP_succ]
  have hb := (atOf_bound (closed_vd hv hc) (i := (p : Int)) (by rw [closedOf_length]; omega)).2.2.2.2
  refine ⟨hb.2 ?_, ha⟩
  rw [ha]
  exact (stepFacts hv hc h).le1
theorem closed_allows {d : List S51} (hv : vd d = true) (hc : (clashOf d).2.2 = false) {m : Nat → Int} : (chainOf (closedOf d)).Allows m ↔ (chainOf d).Allows m := by
  have hn := (chain_noClash d).2 hc
  constructor
  · intro h
    refine ⟨h.zero, fun p hp => ?_, fun p hp hK => ?_⟩
    · have hp : p < d.length := hp
      have g := h.step p (by show p < (closedOf d).length; rw [closedOf_length]; exact hp)
      have hs := closed_step hp
      have hd := SL_succ d p hp
      have g : SL (closedOf d) (((p + 1 : Nat) : Int) - 1) - SL (closedOf d) ((p : Int) - 1) ≤ m (p + 1) - m p ∧ m (p + 1) - m p ≤ SH (closedOf d) (((p + 1 : Nat) : Int) - 1) - SH (closedOf d) ((p : Int) - 1) := g
      show SL d (((p + 1 : Nat) : Int) - 1) - SL d ((p : Int) - 1) ≤ _ ∧ _ ≤ SH d (((p + 1 : Nat) : Int) - 1) - SH d ((p : Int) - 1)
      rw [show ((p + 1 : Nat) : Int) - 1 = (p : Int) from by omega] at g ⊢
      omega
    · have hp : p ≤ d.length := hp
      have f1 := (chain_early hv hn).at_ p hp hK
      have f2 := (chain_late hv hn).at_ p hp hK
      cases p with
      | zero => rw [h.zero]; exact ⟨Int.le_refl _, Int.le_refl _⟩
      | succ p =>
        have hk := closed_known hv hc (p := p) (by omega)
        have g := h.at_ (p + 1) (by show p + 1 ≤ (closedOf d).length; rw [closedOf_length]; exact hp) (by show isK _ (((p + 1 : Nat) : Int) - 1) = true; rw [show ((p + 1 : Nat) : Int) - 1 = (p : Int) from by omega]; exact hk.1)
        have g : (atOf (closedOf d) (((p + 1 : Nat) : Int) - 1)).f0 ≤ m (p + 1) ∧ m (p + 1) ≤ (atOf (closedOf d) (((p + 1 : Nat) : Int) - 1)).f1 := g
        rw [show ((p + 1 : Nat) : Int) - 1 = (p : Int) from by omega, hk.2] at g
        simp only at g f1 f2
        omega
  · intro h
    have lo : ∀ p, p ≤ d.length → (tmP d p).1 ≤ m p ∧ m p ≤ (tmP d p).2 := fun p hp => ⟨h.lo hp (chain_lo hv hn hp), h.hi hp (chain_hi hv hn hp)⟩
    refine ⟨h.zero, fun p hp => ?_, fun p hp hK => ?_⟩
    · have hp : p < d.length := by have : p < (closedOf d).length := hp; rwa [closedOf_length] at this
      have g := h.step p hp
      have hs := closed_step hp
      have hd := SL_succ d p hp
      have l0 := lo p (by omega)
      have l1 := lo (p + 1) hp
      have g : SL d (((p + 1 : Nat) : Int) - 1) - SL d ((p : Int) - 1) ≤ m (p + 1) - m p ∧ m (p + 1) - m p ≤ SH d (((p + 1 : Nat) : Int) - 1) - SH d ((p : Int) - 1) := g
      show SL (closedOf d) (((p + 1 : Nat) : Int) - 1) - SL (closedOf d) ((p : Int) - 1) ≤ _ ∧ _ ≤ SH (closedOf d) (((p + 1 : Nat) : Int) - 1) - SH (closedOf d) ((p : Int) - 1)
      rw [show ((p + 1 : Nat) : Int) - 1 = (p : Int) from by omega] at g ⊢
      omega
    · have hp : p ≤ d.length := by have : p ≤ (closedOf d).length := hp; rwa [closedOf_length] at this
      cases p with
      | zero => rw [h.zero]; exact ⟨Int.le_refl _, Int.le_refl _⟩
      | succ p =>
        have hk := closed_known hv hc (p := p) (by omega)
        show (atOf (closedOf d) (((p + 1 : Nat) : Int) - 1)).f0 ≤ m (p + 1) ∧ m (p + 1) ≤ (atOf (closedOf d) (((p + 1 : Nat) : Int) - 1)).f1
        rw [show ((p + 1 : Nat) : Int) - 1 = (p : Int) from by omega, hk.2]
        exact lo (p + 1) hp
theorem closed_check {d : List S51} (hv : vd d = true) (hc : (clashOf d).2.2 = false) (l : List Int) : checkOf (closedOf d) l = checkOf d l := by
  have hv' := closed_vd hv hc
  have he : allOk (closedOf d) l = allOk d l := by
    rw [Bool.eq_iff_iff, allOk_chain hv', allOk_chain hv, closed_allows hv hc]
  unfold checkOf
  rw [if_pos hv', if_pos hv, closedOf_length, he]
theorem closed_noClash {d : List S51} (hv : vd d = true) (hc : (clashOf d).2.2 = false) : (clashOf (closedOf d)).2.2 = false :=
  (chain_noClash _).1 ((closed_allows hv hc).2 (chain_early hv ((chain_noClash d).2 hc))).noClash
theorem closed_tmP {d : List S51} (hv : vd d = true) (hc : (clashOf d).2.2 = false) {p : Nat} (hp : p ≤ d.length) : tmP (closedOf d) p = tmP d p := by
  have hv' := closed_vd hv hc
  have hn := (chain_noClash d).2 hc
  have hn' := (chain_noClash _).2 (closed_noClash hv hc)
  have hp' : p ≤ (closedOf d).length := by rw [closedOf_length]; exact hp
  have a1 := ((closed_allows hv hc).1 (chain_early hv' hn')).lo hp (chain_lo hv hn hp)
  have a2 := ((closed_allows hv hc).2 (chain_early hv hn)).lo hp' (chain_lo hv' hn' hp')
  have b1 := ((closed_allows hv hc).1 (chain_late hv' hn')).hi hp (chain_hi hv hn hp)
  have b2 := ((closed_allows hv hc).2 (chain_late hv hn)).hi hp' (chain_hi hv' hn' hp')
  exact Prod.ext (Int.le_antisymm a2 a1) (Int.le_antisymm b1 b2)
theorem closed_again {d : List S51} (hv : vd d = true) (hc : (clashOf d).2.2 = false) : closedOf (closedOf d) = closedOf d := by
  unfold closedOf
  rw [show (List.map (fun j : Nat => (⟨⟨(betweenOf d ((j : Int) - 1) (j : Int)).1, (betweenOf d ((j : Int) - 1) (j : Int)).2⟩, ⟨(timeOf d (j : Int)).1, (timeOf d (j : Int)).2⟩⟩ : S51)) (List.range d.length)) = closedOf d from rfl, closedOf_length]
  refine List.map_congr_left fun p hp => ?_
  have hp := List.mem_range.1 hp
  obtain ⟨f1, f2, f3, f4, f5, f6⟩ := stepFacts hv hc hp
  have e1 := closed_tmP hv hc (p := p) (by omega)
  have e2 := closed_tmP hv hc (p := p + 1) (by omega)
  rw [← tmP_succ, ← tmP_succ, between_step (d := closedOf d) (by rw [closedOf_length]; exact hp), between_step hp, e1, e2, closed_rd hp, between_step hp]
  simp only
  rw [show max (max (rd_T51 d (p : Int)).f0.f0 ((tmP d (p + 1)).1 - (tmP d p).2)) ((tmP d (p + 1)).1 - (tmP d p).2) = max (rd_T51 d (p : Int)).f0.f0 ((tmP d (p + 1)).1 - (tmP d p).2) from by omega, show min (min (rd_T51 d (p : Int)).f0.f1 ((tmP d (p + 1)).2 - (tmP d p).1)) ((tmP d (p + 1)).2 - (tmP d p).1) = min (rd_T51 d (p : Int)).f0.f1 ((tmP d (p + 1)).2 - (tmP d p).1) from by omega]
end Go.Proofs.YtgiihjcpgjpkcaaDoor.Q
