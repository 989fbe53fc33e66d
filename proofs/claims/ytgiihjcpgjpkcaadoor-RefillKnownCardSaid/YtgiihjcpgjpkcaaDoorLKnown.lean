/- RefillKnown: the statement's own function answers true, at every day, list, span and indices; no program in sight. -/
import Derived.Test.YtgiihjcpgjpkcaaDoorHFacts
import Derived.Test.YtgiihjcpgjpkcaaDoorHRefV
import Derived.Test.YtgiihjcpgjpkcaaDoorHEqual
import Derived.Test.YtgiihjcpgjpkcaaDoorQWKnown
namespace Go.Proofs.YtgiihjcpgjpkcaaDoor.Q
open Go.RowKit Go.Proofs.YtgiihjcpgjpkcaaDoorW.PrintWords Go.Proofs.YtgiihjcpgjpkcaaDoorW.PrintLast Go.Proofs.YtgiihjcpgjpkcaaDoorW.PrintMore
set_option linter.unusedVariables false
set_option linter.unusedSimpArgs false

theorem known_j3 {d : List S51} {i x0 x1 a b : Int} (h : knownErr d i x0 x1 = 0) (hc : (clashOf (withAt d i (narrowedAt (rd_T51 d i) x0 x1))).2.2 = false) (ha : -1 ≤ a) (hab : a < b) (hb : b < d.length) (k : Nat) (hk : 2000 ≤ k) :
    waterhourlaw04_RefillKnown.j3 (k + 1) d a b (withAt d i (narrowedAt (rd_T51 d i) x0 x1)) false = some true := by
  obtain ⟨hv, hi, hx, hle⟩ := knownErr_zero h
  obtain ⟨f1, f2, f3⟩ := knownFacts h
  obtain ⟨g1, g2⟩ := known_narrower h hc
  have g3 := known_between h hc ha hab hb
  have g4 := g2 b (by omega) hb
  rw [timeB_of d (i := b) (by omega), timeB_of _ (i := b) (by omega)] at g4
  have hlen := withAt_length d i (narrowedAt (rd_T51 d i) x0 x1)
  simp only [waterhourlaw04_RefillKnown.j3]
  rw [if_neg (by decide), pTime_eq d b k hk, pTime_eq _ b k hk, pBetween_eq d a b k hk, pBetween_eq _ a b k hk]
  rw [betweenErr_yes hv (a := a) (b := b) (by omega), betweenErr_yes f1 (a := a) (b := b) (by omega), readyA_of hv g1 (i := b) (by omega) hb, readyA_of f1 hc (i := b) (by omega) (by omega), g1, hc]
  simp only [Option.bind_some, Bool.false_eq_true, if_false, if_true]
  rw [if_pos g4.1, if_pos g4.2, if_pos g3.1, decide_eq_true g3.2]
theorem known_j2 {d : List S51} {i x0 x1 a b : Int} (h : knownErr d i x0 x1 = 0) (hc : (clashOf (withAt d i (narrowedAt (rd_T51 d i) x0 x1))).2.2 = false) (k : Nat) (hk : 2001 ≤ k) :
    waterhourlaw04_RefillKnown.j2 (k + 1) d a b (withAt d i (narrowedAt (rd_T51 d i) x0 x1)) 0 false = some true := by
  obtain ⟨k, rfl⟩ : ∃ m, k = m + 1 := ⟨k - 1, by omega⟩
  have jt : waterhourlaw04_RefillKnown.j3 (k + 1) d a b (withAt d i (narrowedAt (rd_T51 d i) x0 x1)) true = some true := by simp only [waterhourlaw04_RefillKnown.j3, if_true]
  simp only [waterhourlaw04_RefillKnown.j2, Event_eq, Option.bind_some, decide_eq_true_eq]
  rw [if_neg (by decide), jt]
  by_cases hb : 0 ≤ b ∧ b < d.length
  · rw [if_pos hb]
    by_cases ha : -1 ≤ a ∧ a < d.length
    · rw [if_pos ha]
      by_cases hab : a ≥ b
      · rw [decide_eq_true hab, jt]
      · rw [decide_eq_false hab]
        exact known_j3 h hc ha.1 (by omega) hb.2 k (by omega)
    · rw [if_neg ha]
  · rw [if_neg hb]
theorem known_j1 {d : List S51} {i x0 x1 a b : Int} (h : knownErr d i x0 x1 = 0) (k : Nat) (hk : 2002 ≤ k) :
    waterhourlaw04_RefillKnown.j1 (k + 1) d a b (withAt d i (narrowedAt (rd_T51 d i) x0 x1)) false = some true := by
  obtain ⟨k, rfl⟩ : ∃ m, k = m + 1 := ⟨k - 1, by omega⟩
  obtain ⟨f1, f2, f3⟩ := knownFacts h
  simp only [waterhourlaw04_RefillKnown.j1]
  rw [if_neg (by decide), pPossible_eq _ (k + 1) (by omega), f1]
  simp only [Option.bind_some, if_true, Bool.true_and, Bool.not_not]
  cases hc : (clashOf (withAt d i (narrowedAt (rd_T51 d i) x0 x1))).2.2 with
  | true => simp only [waterhourlaw04_RefillKnown.j2, if_true]; rfl
  | false => exact known_j2 h hc k (by omega)
theorem known_j0 {d : List S51} {i x0 x1 a b : Int} (hv : vd d = true) (hi : 0 ≤ i ∧ i < d.length) (l : List Int) (k : Nat) (hk : 2003 ≤ k) :
    waterhourlaw04_RefillKnown.j0 (k + 1) d i l a b false x0 x1 = some true := by
  obtain ⟨k, rfl⟩ : ∃ m, k = m + 1 := ⟨k - 1, by omega⟩
  simp only [waterhourlaw04_RefillKnown.j0]
  rw [if_neg (by decide)]
  simp only [refill_Known.f, refill_CheckTimes.f, Option.bind_some]
  by_cases h : knownErr d i x0 x1 = 0
  · have hcheck := known_check h l
    simp only [if_pos h]
    by_cases hz : checkOf d l = 0
    · have hlen := (check_zero.1 hz).2.1
      rw [if_pos hz, if_pos hi.1, if_pos (by omega)]
      by_cases h1 : rd l i ≥ x0
      · rw [if_pos h1]
        have e : (checkOf (withAt d i (narrowedAt (rd_T51 d i) x0 x1)) l == 0) = decide (rd l i ≤ x1) := by
          rw [Bool.eq_iff_iff, beq_iff_eq, decide_eq_true_eq, hcheck]
          exact ⟨fun q => q.2.2, fun q => ⟨hz, h1, q⟩⟩
        rw [e, bne_self_eq_false]
        exact known_j1 h k (by omega)
      · rw [if_neg h1]
        have e : (checkOf (withAt d i (narrowedAt (rd_T51 d i) x0 x1)) l == 0) = false := by
          rw [Bool.eq_false_iff, ne_eq, beq_iff_eq, hcheck]
          exact fun q => h1 q.2.1
        rw [e, bne_self_eq_false]
        exact known_j1 h k (by omega)
    · rw [if_neg hz]
      have e : (checkOf (withAt d i (narrowedAt (rd_T51 d i) x0 x1)) l == 0) = false := by
        rw [Bool.eq_false_iff, ne_eq, beq_iff_eq, hcheck]
        exact fun q => hz q.1
      rw [e, bne_self_eq_false]
      exact known_j1 h k (by omega)
  · simp only [if_neg h]
    rw [if_pos (show ((([] : List S51).length : Nat) : Int) = 0 from rfl)]
    have hcs : knownErr d i x0 x1 = 1 ∨ knownErr d i x0 x1 = 4 := by
      unfold knownErr at h ⊢
      rw [if_pos hv, if_pos hi] at h ⊢
      by_cases hx : 0 ≤ x0 ∧ x0 ≤ x1 ∧ x1 ≤ 16777216
      · rw [if_pos hx] at h ⊢
        by_cases hn : (narrowedAt (rd_T51 d i) x0 x1).1 > (narrowedAt (rd_T51 d i) x0 x1).2
        · rw [if_pos hn]; exact .inr rfl
        · rw [if_neg hn] at h; exact absurd rfl h
      · rw [if_neg hx]; exact .inl rfl
    rcases hcs with e | e <;> rw [e] <;> rfl
theorem law_Known (d : List S51) (i x0 x1 : Int) (l : List Int) (a b : Int) : waterhourlaw04_RefillKnown.f 3000 d i x0 x1 l a b = some true := by
  unfold waterhourlaw04_RefillKnown.f law_sane.f
  rw [Valid_eq d 3000 (by omega), few_one d l 3000 (by omega), Event_eq]
  simp only [Option.bind_some, if_true]
  have jt : waterhourlaw04_RefillKnown.j0 3000 d i l a b true x0 x1 = some true := by simp only [waterhourlaw04_RefillKnown.j0, if_true]
  rw [jt]
  by_cases hv : vd d = true
  · rw [if_pos hv]
    split
    · by_cases hi : 0 ≤ i ∧ i < d.length
      · rw [decide_eq_true hi]
        exact known_j0 hv hi l 2999 (by omega)
      · rw [decide_eq_false hi]
        exact jt
    · rfl
  · rw [if_neg hv]
end Go.Proofs.YtgiihjcpgjpkcaaDoor.Q
