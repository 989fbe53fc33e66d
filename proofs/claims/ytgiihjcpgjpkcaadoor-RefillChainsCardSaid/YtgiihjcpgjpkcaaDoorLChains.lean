/- RefillChains: the statement's own function answers true, at every day and indices; no program in sight. -/
import Derived.Test.YtgiihjcpgjpkcaaDoorHFacts
import Derived.Test.YtgiihjcpgjpkcaaDoorHRefV
import Derived.Test.YtgiihjcpgjpkcaaDoorHEqual
import Derived.Test.YtgiihjcpgjpkcaaDoorQWChains
namespace Go.Proofs.YtgiihjcpgjpkcaaDoor.Q
open Go.RowKit Go.Proofs.YtgiihjcpgjpkcaaDoorW.PrintWords Go.Proofs.YtgiihjcpgjpkcaaDoorW.PrintLast Go.Proofs.YtgiihjcpgjpkcaaDoorW.PrintMore
set_option linter.unusedVariables false
set_option linter.unusedSimpArgs false

theorem chains_j0 {d : List S51} {a b c : Int} (hv : vd d = true) (ha : 0 ≤ a) (hab : a < b) (hbc : b < c) (hc' : c < d.length) (k : Nat) (hk : 2000 ≤ k) : waterhourlaw04_RefillChains.j0 (k + 1) d a b c false = some true := by
  simp only [waterhourlaw04_RefillChains.j0]
  rw [if_neg (by decide), pBetween_eq d a b k hk, pBetween_eq d b c k hk, pBetween_eq d a c k hk, pBetween_eq d (-1) b k hk, pTime_eq d a k hk, pTime_eq d b k hk]
  rw [betweenErr_yes hv (a := a) (b := b) (by omega), betweenErr_yes hv (a := b) (b := c) (by omega), betweenErr_yes hv (a := a) (b := c) (by omega), betweenErr_yes hv (a := -1) (b := b) (by omega), readyA_31 hv (i := a) (by omega), readyA_31 hv (i := b) (by omega)]
  simp only [Option.bind_some]
  cases hc : (clashOf d).2.2 with
  | true => rfl
  | false =>
    simp only [Bool.false_eq_true, if_false, if_true]
    rw [between_beg hv hc (b := b) (by omega) (by omega)]
    obtain ⟨w1, w2, w3, w4⟩ := ends_way hv hc (a := a) (b := b) (by omega) (by omega) (by omega)
    obtain ⟨v1, v2, v3, v4⟩ := ends_way hv hc (a := b) (b := c) (by omega) (by omega) (by omega)
    rw [timeB_of d (i := a) (by omega), timeB_of d (i := b) (by omega)] at *
    rw [timeB_of d (i := c) (by omega)] at *
    have ra := time_range hv hc (i := a) (by omega) (by omega)
    have rb := time_range hv hc (i := b) (by omega) (by omega)
    have rc := time_range hv hc (i := c) (by omega) (by omega)
    have s1 := way_bound hv (a := a) (b := b) (by omega)
    have s2 := way_bound hv (a := b) (b := c) (by omega)
    have t1 := SL_bound hv a
    have t2 := SL_bound hv b
    have t3 := SL_bound hv c
    obtain ⟨q, rfl⟩ := Int.eq_ofNat_of_zero_le (show 0 ≤ b by omega)
    have hs := SL_succ d q (by omega)
    have s3 := way_bound hv (a := a) (b := (q : Int) - 1) (by omega)
    have hle := between_le hv hc (a := a) (b := c) (by omega) (by omega) (by omega)
    have e1 := between_max d a (q : Int)
    have e2 := between_max d (q : Int) c
    have e3 := between_max d a c
    rw [timeB_of d (i := a) (by omega)] at e1 e3
    rw [timeB_of d (i := (q : Int)) (by omega)] at e2
    generalize betweenOf d a (q : Int) = x at *
    generalize betweenOf d (q : Int) c = y at *
    generalize betweenOf d a c = z at *
    subst e1 e2 e3
    simp only at hle ⊢
    rw [if_neg (by simp)]
    rw [wrap_small (by omega) (by omega), if_pos (by omega), wrap_small (by omega) (by omega), if_pos (by omega), wrap_small (by omega) (by omega), if_pos (by omega), wrap_small (by omega) (by omega), if_pos (by omega), if_pos hle, if_pos (by omega), if_pos (by omega)]
    exact congrArg some (decide_eq_true (by omega))
theorem law_Chains (d : List S51) (a b c : Int) : waterhourlaw04_RefillChains.f 3000 d a b c = some true := by
  unfold waterhourlaw04_RefillChains.f law_sane.f
  rw [Valid_eq d 3000 (by omega), Event_eq, Event_eq, Event_eq]
  simp only [Option.bind_some, if_true, decide_eq_true_eq]
  have jt : waterhourlaw04_RefillChains.j0 3000 d a b c true = some true := by simp only [waterhourlaw04_RefillChains.j0, if_true]
  rw [jt]
  by_cases hv : vd d = true
  · rw [if_pos hv]
    by_cases ha : 0 ≤ a ∧ a < d.length
    · rw [if_pos ha]
      by_cases hb : 0 ≤ b ∧ b < d.length
      · rw [if_pos hb]
        by_cases hc : 0 ≤ c ∧ c < d.length
        · rw [if_pos hc]
          by_cases h1 : a ≥ b
          · rw [if_pos h1]
          · rw [if_neg h1]
            by_cases h2 : b ≥ c
            · rw [decide_eq_true h2, jt]
            · rw [decide_eq_false h2]
              exact chains_j0 hv ha.1 (by omega) (by omega) hc.2 2999 (by omega)
        · rw [if_neg hc]
      · rw [if_neg hb]
    · rw [if_neg ha]
  · rw [if_neg hv]
end Go.Proofs.YtgiihjcpgjpkcaaDoor.Q
