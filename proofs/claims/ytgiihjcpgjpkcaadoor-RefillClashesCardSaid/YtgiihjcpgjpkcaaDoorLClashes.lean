/- RefillClashes: the statement's own function answers true, at every day and indices; no program in sight. -/
import Derived.Test.YtgiihjcpgjpkcaaDoorHPure3
import Derived.Test.YtgiihjcpgjpkcaaDoorQWClashes
namespace Go.Proofs.YtgiihjcpgjpkcaaDoor.Q
open Go.RowKit Go.Proofs.YtgiihjcpgjpkcaaDoorW.PrintWords Go.Proofs.YtgiihjcpgjpkcaaDoorW.PrintLast Go.Proofs.YtgiihjcpgjpkcaaDoorW.PrintMore
theorem law_Clashes (d : List S51) (a b : Int) : waterhourlaw04_RefillClashes.f 3000 d a b = some true := by
  unfold waterhourlaw04_RefillClashes.f law_sane.f
  rw [few_nil d 3000 (by omega), pClash_eq d 3000 (by omega), rClash_eq d 3000 (by omega), pCheckClash_eq d a b 3000 (by omega), rCheckClash_eq d a b 3000 (by omega)]
  simp only [Option.bind_some, if_true, beq_self_eq_true]
  split <;> rfl
end Go.Proofs.YtgiihjcpgjpkcaaDoor.Q
