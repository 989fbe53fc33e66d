/- RefillProofs: the statement's own function answers true, at every day, index and bounds; no program in sight. -/
import Derived.Test.YtgiihjcpgjpkcaaDoorHPure3
import Derived.Test.YtgiihjcpgjpkcaaDoorQWProofs
namespace Go.Proofs.YtgiihjcpgjpkcaaDoor.Q
open Go.RowKit Go.Proofs.YtgiihjcpgjpkcaaDoorW.PrintWords Go.Proofs.YtgiihjcpgjpkcaaDoorW.PrintLast Go.Proofs.YtgiihjcpgjpkcaaDoorW.PrintMore
theorem law_Proofs (d : List S51) (i : Int) (lat : Bool) (bound by_ : Int) : waterhourlaw04_RefillProofs.f 3000 d i lat bound by_ = some true := by
  unfold waterhourlaw04_RefillProofs.f law_sane.f
  rw [few_nil d 3000 (by omega), rProof_eq d i lat 3000 (by omega), pCheckProof_eq d i lat bound by_ 3000 (by omega), rCheckProof_eq d i lat bound by_ 3000 (by omega)]
  simp only [Option.bind_some, if_true, beq_self_eq_true, refill_Proof.f]
  split <;> rfl
end Go.Proofs.YtgiihjcpgjpkcaaDoor.Q
