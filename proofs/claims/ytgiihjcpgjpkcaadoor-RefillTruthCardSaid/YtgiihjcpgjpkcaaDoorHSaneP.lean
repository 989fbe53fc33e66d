/- The chapter's examples, reckoned: what each function comes to at the example day; no program in sight. -/
import Derived.Test.YtgiihjcpgjpkcaaDoorHCheck
import Derived.Test.YtgiihjcpgjpkcaaDoorQG
import Derived.Test.YtgiihjcpgjpkcaaDoorQH
import Derived.Test.YtgiihjcpgjpkcaaDoorQI
import Derived.Test.YtgiihjcpgjpkcaaDoorQN
namespace Go.Proofs.YtgiihjcpgjpkcaaDoor.Q
open Go.RowKit Go.Proofs.YtgiihjcpgjpkcaaDoorW.PrintWords Go.Proofs.YtgiihjcpgjpkcaaDoorW.PrintLast Go.Proofs.YtgiihjcpgjpkcaaDoorW.PrintMore

def exD : List S51 := [⟨⟨10, 30⟩, ⟨1, 0⟩⟩, ⟨⟨100, 120⟩, ⟨0, 125⟩⟩]
def lateD : List S51 := [⟨⟨10, 30⟩, ⟨1, 0⟩⟩, ⟨⟨100, 120⟩, ⟨0, 105⟩⟩]
def closedD : List S51 := [⟨⟨10, 25⟩, ⟨10, 25⟩⟩, ⟨⟨100, 115⟩, ⟨110, 125⟩⟩]
def withoutD : List S51 := [⟨⟨110, 150⟩, ⟨0, 125⟩⟩]
def exText : ByteArray := ⟨#[49, 48, 45, 50, 53, 64, 49, 48, 45, 50, 53, 32, 49, 48, 48, 45, 49, 49, 53, 64, 49, 49, 48, 45, 49, 50, 53]⟩
theorem sane_example : waterhourlaw04_example.f = some exD := by kernel_rfl
theorem sane_Earliest : refill_Earliest.f exD = some ([10, 110], 0) := by kernel_rfl
theorem sane_Latest : refill_Latest.f exD = some ([25, 125], 0) := by kernel_rfl
theorem sane_Between : refill_Between.f 60 exD 0 1 = some (100, 115, 0) := by kernel_rfl
theorem sane_Clash : refill_Clash.f 60 lateD = some (-1, 1, true, 0) := by kernel_rfl
theorem sane_Proof : refill_Proof.f exD 0 true = some (1, 0) := by kernel_rfl
theorem sane_Closed : refill_Closed.f 60 exD = some (closedD, 0) := by kernel_rfl
theorem sane_Print : refill_Print.f 60 closedD = some (exText, 0) := by kernel_rfl
theorem sane_Attain : refill_Attain.f 60 exD 1 120 = some ([10, 120], true, 0) := by kernel_rfl
theorem sane_Known : refill_Known.f exD 1 126 130 = some ([], 4) := by kernel_rfl
theorem sane_Without : refill_Without.f exD 0 = some (withoutD, 0) := by kernel_rfl
theorem sane_Times : refill_CheckTimes.f exD [25, 125] = some 0 := by kernel_rfl
theorem sane_Times' : refill_CheckTimes.f exD [26, 125] = some 31 := by kernel_rfl
theorem sane_CheckClash : refill_CheckClash.f 60 lateD (-1) 1 = some 0 := by kernel_rfl
theorem sane_CheckProof : refill_CheckProof.f 60 exD 0 true 24 1 = some 32 := by kernel_rfl
theorem sane_Check : refill_Check.f 60 [] = some 40 := by kernel_rfl
theorem sane_Equal (l : List Int) (x y : Int) (h : l = [x, y]) : slices_Equal_int_int.f 60 l [x, y] = some true := by
  subst h
  simp [slices_Equal_int_int.f, slices_Equal_int_int.l0, rd, wrap64]
end Go.Proofs.YtgiihjcpgjpkcaaDoor.Q
