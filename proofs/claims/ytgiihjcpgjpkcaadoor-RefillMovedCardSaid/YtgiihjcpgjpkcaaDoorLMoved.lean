/- RefillMoved: the statement's own function answers true, at every day and numbers; no program in sight. -/
import Derived.Test.YtgiihjcpgjpkcaaDoorHMoved
import Derived.Test.YtgiihjcpgjpkcaaDoorHRefV
import Derived.Test.YtgiihjcpgjpkcaaDoorHEqual
import Derived.Test.YtgiihjcpgjpkcaaDoorQWMoved
namespace Go.Proofs.YtgiihjcpgjpkcaaDoor.Q
open Go.RowKit Go.Proofs.YtgiihjcpgjpkcaaDoorW.PrintWords Go.Proofs.YtgiihjcpgjpkcaaDoorW.PrintLast Go.Proofs.YtgiihjcpgjpkcaaDoorW.PrintMore
set_option linter.unusedVariables false
set_option linter.unusedSimpArgs false

theorem rKnown_eq (a b : Int) : waterhourref04_Known.f a b = some (decide (a ≤ b)) := rfl
/-- Where the loop stands: the events ahead of j are moved, the others but for the first way are not. -/
structure MovedTo (d m : List S51) (by_ : Int) (j : Nat) : Prop where
  len : m.length = d.length
  ev : ∀ p : Nat, p < d.length → rd_T51 m (p : Int) = if p < j then movedEv p (rd_T51 d (p : Int)) by_ else ⟨(movedEv p (rd_T51 d (p : Int)) by_).f0, (rd_T51 d (p : Int)).f1⟩
theorem moved_j3 {d m : List S51} {by_ : Int} (h : Moved d m by_) (hv : vd d = true) (hm : vd m = true) (hc : (clashOf d).2.2 = false) {a b : Int} (ha : 0 ≤ a) (hab : a < b) (hb : b < d.length) (k : Nat) (hk : 2000 ≤ k) : waterhourlaw04_RefillMoved.j3 (k + 1) d a b m false = some true := by
  have hlen := h.len
  have hcl := h.clash hv hm
  simp only [waterhourlaw04_RefillMoved.j3]
  rw [if_neg (by decide), pBetween_eq d a b k hk, pBetween_eq m a b k hk, betweenErr_yes hv (by omega), betweenErr_yes hm (by omega), hcl, hc, h.between hv hm ha hab hb]
  simp only [Option.bind_some, Bool.false_eq_true, if_false, if_true, beq_self_eq_true, Bool.and_self]
theorem moved_end {d m : List S51} {by_ : Int} (h : Moved d m by_) (hv : vd d = true) (hby : -524288 ≤ by_ ∧ by_ ≤ 524288) {i : Int} (hi : 0 ≤ i ∧ i < d.length) (a b : Int) (k : Nat) (hk : 2010 ≤ k) :
    waterhourlaw04_RefillMoved.l0 (k + 1) d by_ i a b m d d.length d.length = some true := by
  obtain ⟨k, rfl⟩ : ∃ m, k = m + 1 := ⟨k - 1, by omega⟩
  obtain ⟨k, rfl⟩ : ∃ m, k = m + 1 := ⟨k - 1, by omega⟩
  simp only [waterhourlaw04_RefillMoved.l0]
  rw [if_neg (by omega), Valid_eq m (k + 1 + 1) (by omega)]
  simp only [Option.bind_some]
  by_cases hm : vd m = true
  · have hlen := h.len
    have hcl := h.clash hv hm
    have him : 0 ≤ i ∧ i < m.length := by omega
    rw [if_pos hm, pTime_eq d i (k + 1 + 1) (by omega), pTime_eq m i (k + 1 + 1) (by omega), pClash_eq d (k + 1 + 1) (by omega), pClash_eq m (k + 1 + 1) (by omega)]
    simp only [refill_Proof.f, Option.bind_some, hv, hm, if_true]
    rw [readyA_31 hv hi, readyA_31 hm him, hcl]
    cases hc : (clashOf d).2.2 with
    | true =>
      simp only [if_true]
      rfl
    | false =>
      simp only [Bool.false_eq_true, if_false, if_true]
      have hT := h.time hv hm hi.1 hi.2
      have hr := time_range hv hc hi.1 hi.2
      rw [h.proof hv hm hi.1 hi.2 false, hT]
      simp only [bne_self_eq_false, Bool.false_eq_true, if_false, if_true, waterhourlaw04_RefillMoved.j2, Event_eq, Option.bind_some, decide_eq_true_eq]
      rw [wrap_small (x := (timeOf d i).1 + by_) (by omega) (by omega), wrap_small (x := (timeOf d i).2 + by_) (by omega) (by omega), if_neg (by simp)]
      have jt : waterhourlaw04_RefillMoved.j3 (k + 1) d a b m true = some true := by simp only [waterhourlaw04_RefillMoved.j3, if_true]
      rw [jt]
      by_cases ha : 0 ≤ a ∧ a < d.length
      · rw [if_pos ha]
        by_cases hb : 0 ≤ b ∧ b < d.length
        · rw [if_pos hb]
          by_cases hab : a ≥ b
          · rw [decide_eq_true hab, jt]
          · rw [decide_eq_false hab]
            exact moved_j3 h hv hm hc ha.1 (by omega) hb.2 k (by omega)
        · rw [if_neg hb]
      · rw [if_neg ha]
  · rw [if_neg hm]
theorem moved_l0 {d : List S51} (hv : vd d = true) {by_ : Int} (hby : -524288 ≤ by_ ∧ by_ ≤ 524288) {i : Int} (hi : 0 ≤ i ∧ i < d.length) (a b : Int) : ∀ (r k j : Nat) (m : List S51), d.length = j + r → r + 2020 ≤ k → MovedTo d m by_ j →
    waterhourlaw04_RefillMoved.l0 k d by_ i a b m d d.length j = some true
  | 0, k, j, m, hj, hk, hM => by
    obtain ⟨k, rfl⟩ : ∃ m, k = m + 1 := ⟨k - 1, by omega⟩
    obtain rfl : d.length = j := by omega
    refine moved_end ⟨hM.len, fun p hp => ?_⟩ hv hby hi a b k (by omega)
    have := hM.ev p hp
    rwa [if_pos hp] at this
  | r + 1, k, j, m, hj, hk, hM => by
    obtain ⟨k, rfl⟩ : ∃ m, k = m + 1 := ⟨k - 1, by omega⟩
    have hl32 := (vd_iff.1 hv).2.1
    have hjl : j < d.length := by omega
    have hlen := hM.len
    have hx := evOk_iff.1 (rd_ok hv hjl)
    simp only [waterhourlaw04_RefillMoved.l0]
    rw [if_pos (by omega), if_pos (by omega), if_pos (by omega), rKnown_eq, show wrap64 ((j : Int) + 1) = ((j + 1 : Nat) : Int) from by unfold wrap64; omega]
    simp only [Option.bind_some, decide_eq_true_eq]
    have hj0 := hM.ev j hjl
    rw [if_neg (by omega)] at hj0
    by_cases hk' : (rd_T51 d (j : Int)).f1.f0 ≤ (rd_T51 d (j : Int)).f1.f1
    · rw [if_pos hk', if_pos (by omega), wrap_small (by omega) (by omega), wrap_small (by omega) (by omega)]
      refine moved_l0 hv hby hi a b r k (j + 1) _ (by omega) (by omega) ⟨by rw [List.length_set]; exact hlen, fun p hp => ?_⟩
      rw [Int.toNat_natCast]
      by_cases e : j = p
      · subst e
        rw [rd_set _ (by omega), if_pos (by omega), hj0]
        unfold movedEv
        rw [if_pos hk']
      · rw [rd_set_ne _ e, hM.ev p hp]
        by_cases hpj : p < j
        · rw [if_pos hpj, if_pos (by omega)]
        · rw [if_neg hpj, if_neg (by omega)]
    · rw [if_neg hk']
      refine moved_l0 hv hby hi a b r k (j + 1) m (by omega) (by omega) ⟨hlen, fun p hp => ?_⟩
      rw [hM.ev p hp]
      by_cases e : j = p
      · subst e
        rw [if_neg (by omega), if_pos (by omega)]
        unfold movedEv
        rw [if_neg hk']
      · by_cases hpj : p < j
        · rw [if_pos hpj, if_pos (by omega)]
        · rw [if_neg hpj, if_neg (by omega)]
theorem moved_j0 {d : List S51} (hv : vd d = true) {by_ : Int} (hby : -524288 ≤ by_ ∧ by_ ≤ 524288) {i : Int} (hi : 0 ≤ i ∧ i < d.length) (a b : Int) (k : Nat) (hk : 2100 ≤ k) : waterhourlaw04_RefillMoved.j0 (k + 1) d by_ i a b false = some true := by
  have hl := (vd_iff.1 hv).2.1
  have ec : slices_CloneDay.f d = some d := by unfold slices_CloneDay.f; rw [if_pos (by omega)]
  have hx := evOk_iff.1 (rd_ok hv (show 0 < d.length by omega))
  have e0 : ((0 : Nat) : Int) = 0 := rfl
  rw [e0] at hx
  simp only [waterhourlaw04_RefillMoved.j0]
  rw [if_neg (by decide), ec]
  simp only [Option.bind_some]
  rw [if_pos (by omega), if_pos (by omega), wrap_small (by omega) (by omega), wrap_small (by omega) (by omega)]
  refine moved_l0 hv hby hi a b d.length k 0 _ (by omega) (by omega) ⟨by rw [List.length_set], fun p hp => ?_⟩
  rw [if_neg (by omega), show ((0 : Int)).toNat = 0 from rfl]
  by_cases e : 0 = p
  · subst e
    rw [rd_set _ hp]
    unfold movedEv
    rw [if_pos rfl]
    rfl
  · rw [rd_set_ne _ e]
    unfold movedEv
    rw [if_neg (by omega)]
theorem law_Moved (d : List S51) (by_ i a b : Int) : waterhourlaw04_RefillMoved.f 3000 d by_ i a b = some true := by
  unfold waterhourlaw04_RefillMoved.f law_sane.f
  rw [Valid_eq d 3000 (by omega), Event_eq]
  simp only [Option.bind_some, if_true]
  have jt : waterhourlaw04_RefillMoved.j0 3000 d by_ i a b true = some true := by simp only [waterhourlaw04_RefillMoved.j0, if_true]
  rw [jt]
  by_cases hv : vd d = true
  · rw [if_pos hv]
    by_cases h1 : by_ < -524288
    · rw [if_pos h1]
    · rw [if_neg h1]
      by_cases h2 : by_ > 524288
      · rw [if_pos h2]
      · rw [if_neg h2]
        by_cases hi : 0 ≤ i ∧ i < d.length
        · rw [decide_eq_true hi]
          exact moved_j0 hv ⟨by omega, by omega⟩ hi a b 2999 (by omega)
        · rw [decide_eq_false hi]
          exact jt
  · rw [if_neg hv]
end Go.Proofs.YtgiihjcpgjpkcaaDoor.Q
