/- RefillProved: the statement's own function answers true, at every day, index and bounds; no program in sight. -/
import Derived.Test.YtgiihjcpgjpkcaaDoorHFacts
import Derived.Test.YtgiihjcpgjpkcaaDoorHRefV
import Derived.Test.YtgiihjcpgjpkcaaDoorQWProved
namespace Go.Proofs.YtgiihjcpgjpkcaaDoor.Q
open Go.RowKit Go.Proofs.YtgiihjcpgjpkcaaDoorW.PrintWords Go.Proofs.YtgiihjcpgjpkcaaDoorW.PrintLast Go.Proofs.YtgiihjcpgjpkcaaDoorW.PrintMore
set_option linter.unusedVariables false
set_option linter.unusedSimpArgs false

theorem proved_j1 {d : List S51} {i : Int} (hv : vd d = true) (bound by_ : Int) (k : Nat) (hk : 2000 ≤ k) : waterhourlaw04_RefillProved.j1 (k + 1) d i bound by_ false (timeOf d i).1 (timeOf d i).2 = some true := by
  simp only [waterhourlaw04_RefillProved.j1]
  rw [if_neg (by decide), pCheckProof_eq d i false bound by_ k hk, pCheckProof_eq d i true bound by_ k hk]
  simp only [Option.bind_some]
  have h2 : (if bound ≥ (timeOf d i).2 then some true else some (checkProofOf d i true bound by_ != 0)) = some true := by
    by_cases h : bound ≥ (timeOf d i).2
    · rw [if_pos h]
    · rw [if_neg h, show (checkProofOf d i true bound by_ != 0) = true from bne_iff_ne.2 fun hc => h (proof_hi hc)]
  by_cases h1 : bound > (timeOf d i).1
  · rw [if_pos h1, if_neg (fun hc => by have := proof_lo hc; omega)]
    exact h2
  · rw [if_neg h1]
    exact h2
theorem proved_j0 {d : List S51} {i : Int} (hv : vd d = true) (hi : 0 ≤ i ∧ i < d.length) (bound by_ : Int) (k : Nat) (hk : 2001 ≤ k) : waterhourlaw04_RefillProved.j0 (k + 1) d i bound by_ false = some true := by
  obtain ⟨k, rfl⟩ : ∃ m, k = m + 1 := ⟨k - 1, by omega⟩
  simp only [waterhourlaw04_RefillProved.j0]
  rw [if_neg (by decide), pTime_eq d i (k + 1) (by omega)]
  simp only [refill_Proof.f, Option.bind_some]
  cases hc : (clashOf d).2.2 with
  | true =>
    have hr : readyA d i = 31 := by rw [readyA_31 hv hi, hc]; rfl
    rw [hr]
    rfl
  | false =>
    have hr := readyA_of hv hc hi.1 hi.2
    rw [hr]
    simp only [if_true]
    rw [if_neg (by decide)]
    have e1 : (timeOf d i).1 = boundOf d i false := rfl
    have e2 : (timeOf d i).2 = boundOf d i true := rfl
    rw [pCheckProof_eq d i false _ _ (k + 1) (by omega), pCheckProof_eq d i true _ _ (k + 1) (by omega), e1, proof_ok hv hi.1 hi.2 false, e2, proof_ok hv hi.1 hi.2 true]
    simp only [Option.bind_some, if_true, bne_self_eq_false]
    exact proved_j1 hv bound by_ k (by omega)
theorem law_Proved (d : List S51) (i bound by_ : Int) : waterhourlaw04_RefillProved.f 3000 d i bound by_ = some true := by
  unfold waterhourlaw04_RefillProved.f law_sane.f
  rw [Valid_eq d 3000 (by omega), Event_eq]
  simp only [Option.bind_some, if_true]
  have jt : waterhourlaw04_RefillProved.j0 3000 d i bound by_ true = some true := by simp only [waterhourlaw04_RefillProved.j0, if_true]
  by_cases hv : vd d = true
  · rw [if_pos hv]
    by_cases hi : 0 ≤ i ∧ i < d.length
    · rw [decide_eq_true hi]
      exact proved_j0 hv hi bound by_ 2999 (by omega)
    · rw [decide_eq_false hi]
      exact jt
  · rw [if_neg hv]
    exact jt
end Go.Proofs.YtgiihjcpgjpkcaaDoor.Q
