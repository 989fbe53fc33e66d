/- RefillClosed: the statement's own function answers true, at every day and list; no program in sight. -/
import Derived.Test.YtgiihjcpgjpkcaaDoorHClosed
import Derived.Test.YtgiihjcpgjpkcaaDoorHRefV
import Derived.Test.YtgiihjcpgjpkcaaDoorHEqual
import Derived.Test.YtgiihjcpgjpkcaaDoorQWClosed
namespace Go.Proofs.YtgiihjcpgjpkcaaDoor.Q
open Go.RowKit Go.Proofs.YtgiihjcpgjpkcaaDoorW.PrintWords Go.Proofs.YtgiihjcpgjpkcaaDoorW.PrintLast Go.Proofs.YtgiihjcpgjpkcaaDoorW.PrintMore
set_option linter.unusedVariables false
set_option linter.unusedSimpArgs false

theorem closed_j0 {d : List S51} (hv : vd d = true) (l : List Int) (b : Bool) (k : Nat) (hk : 2000 ≤ k) : waterhourlaw04_RefillClosed.j0 (k + 1) d l b = some true := by
  simp only [waterhourlaw04_RefillClosed.j0]
  cases b with
  | true => rfl
  | false =>
    have hl := (vd_iff.1 hv).2.1
    rw [if_neg (by decide), pClosed_eq d k hk]
    simp only [Option.bind_some]
    by_cases hr : readyE d = 0
    · obtain ⟨_, hc⟩ := readyE_zero hr
      have hv' := closed_vd hv hc
      simp only [if_pos hr]
      rw [pClosed_eq (closedOf d) k hk, ready_of hv' (closed_noClash hv hc)]
      simp only [Option.bind_some, if_true]
      rw [closed_again hv hc, Valid_eq _ k (by omega), hv', Same_self _ (by rw [closedOf_length]; omega) k (by omega)]
      simp only [Option.bind_some, if_true, refill_CheckTimes.f]
      rw [closed_check hv hc, beq_self_eq_true]
    · have h31 : readyE d = 31 := by
        unfold readyE at hr ⊢
        rw [if_pos hv] at hr ⊢
        split at hr
        · rename_i h; rw [if_pos h]
        · omega
      simp only [if_neg hr]
      rw [if_pos h31, if_pos (show ((([] : List S51).length : Nat) : Int) = 0 from rfl)]
      simp only [Option.bind_some, refill_CheckTimes.f]
      have hne : checkOf d l ≠ 0 := fun h => by
        have := check_noClash h
        unfold readyE at h31
        rw [if_pos hv, this] at h31
        simp at h31
      rw [show (checkOf d l != 0) = true from bne_iff_ne.2 hne]
theorem law_Closed (d : List S51) (l : List Int) : waterhourlaw04_RefillClosed.f 3000 d l = some true := by
  unfold waterhourlaw04_RefillClosed.f law_sane.f
  rw [Valid_eq d 3000 (by omega), few_one d l 3000 (by omega)]
  simp only [Option.bind_some, if_true]
  by_cases hv : vd d = true
  · rw [if_pos hv]
    exact closed_j0 hv l _ 2999 (by omega)
  · rw [if_neg hv]
    simp only [waterhourlaw04_RefillClosed.j0, if_true]
end Go.Proofs.YtgiihjcpgjpkcaaDoor.Q
