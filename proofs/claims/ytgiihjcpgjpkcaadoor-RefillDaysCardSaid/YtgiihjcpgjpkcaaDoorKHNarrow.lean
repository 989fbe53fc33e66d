/- Contracts walked by hand and lemmas for them, as far as RefillDays needs them. -/
import Derived.RegionTactic
import Derived.BigRegion
import Derived.ChangeAlike
import Derived.Test.YtgiihjcpgjpkcaaDoorKQ0
namespace Go.Proofs.YtgiihjcpgjpkcaaDoor.Q
open Go.RowKit Go.Proofs.YtgiihjcpgjpkcaaDoorW.PrintWords Go.Proofs.YtgiihjcpgjpkcaaDoorW.PrintLast Go.Proofs.YtgiihjcpgjpkcaaDoorW.PrintMore
set_option linter.unusedVariables false
set_option linter.unusedSimpArgs false
attribute [local go_sem] max2_int min2_int
set_option maxRecDepth 100000 in
set_option maxHeartbeats 4000000 in
theorem narrow_any (g : Nat) (p0 p1 x0 x1 : Int) (w : World) (h0 : w.cell? ⟨g, 0, none⟩ = some (.int .i64 p0)) (h1 : w.cell? ⟨g, 1, none⟩ = some (.int .i64 p1)) (f0 : w.frozen? ⟨g, 0, none⟩ = false) (f1 : w.frozen? ⟨g, 1, none⟩ = false) (hg : g < w.heap.size) :
    Calls Tryd.prog 94 #[.pointer (some ⟨g, 0, none⟩), .agg #[.int .i64 x0, .int .i64 x1]] w fun e w' => e = .returned (.tuple #[]) ∧
      w' = (((w.setCell ⟨g, 0, none⟩ (.int .i64 (mx p0 x0))).setCell ⟨g, 1, none⟩ (.int .i64 (mn p1 x1))).alloc (.cells #[.int .i64 x0, .int .i64 x1] 49)).drew := by
  have hu49 := Tryd.underlying49
  go_enter Tryd.func94, Tryd.ntmps94
  go_wp2
  go_region
  all_goals (go_end0; exact ⟨rfl, rfl⟩)
end Go.Proofs.YtgiihjcpgjpkcaaDoor.Q
