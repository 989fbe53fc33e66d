/- Contracts of functions of the given program: each Go function as a plain Lean function (name.f) and the proof that its call answers just so, for every reading of its arguments. Written by the session's program wip/xprint.py out of the translation. -/
import Derived.Test.YtgiihjcpgjpkcaaDoorQ0
import Derived.Test.YtgiihjcpgjpkcaaDoorQC
import Derived.Test.YtgiihjcpgjpkcaaDoorQI
import Derived.Test.YtgiihjcpgjpkcaaDoorQK1
import Derived.Test.YtgiihjcpgjpkcaaDoorQY
import Derived.Test.YtgiihjcpgjpkcaaDoorHCheck
import Derived.Test.YtgiihjcpgjpkcaaDoorHCut
import Derived.Test.YtgiihjcpgjpkcaaDoorHSane
import Derived.Test.YtgiihjcpgjpkcaaDoorHWithout
namespace Go.Proofs.YtgiihjcpgjpkcaaDoor.Q
open Go.RowKit Go.Proofs.YtgiihjcpgjpkcaaDoorW.PrintWords Go.Proofs.YtgiihjcpgjpkcaaDoorW.PrintLast Go.Proofs.YtgiihjcpgjpkcaaDoorW.PrintMore
attribute [local go_sem] max2_int min2_int max_two min_two max_three min_three max_four min_four   -- for this text's walks alone
set_option linter.unusedVariables false
set_option linter.unusedSimpArgs false

/-! ### waterhourlaw04_RefillWithout: function 7 -/
mutual
def waterhourlaw04_RefillWithout.j0 : Nat → List (S51) → List (S51) → Int → List Int → Bool → Option (Bool)
 | 0, _, _, _, _, _ => none
 | k + 1, x0, x1, x2, x3, x35 => if x35 = true then (some true) else ((refill_Without.f x0 x2).bind fun bt445 => (if bt445.2 = 0 then ((waterhourref04_Event.f x0 x2 0).bind fun t449 => (if t449 = true then ((waterhourref04_Valid.f k bt445.1).bind fun t450 => (if t450 = true then (waterhourlaw04_RefillWithout.j1 k x0 x1 x2 x3 bt445.1 ((bt445.1.length : Int) != (wrap64 ((x0.length : Int) - 1)))) else (waterhourlaw04_RefillWithout.j1 k x0 x1 x2 x3 bt445.1 true))) else (waterhourlaw04_RefillWithout.j1 k x0 x1 x2 x3 bt445.1 true))) else (waterhourlaw04_RefillWithout.j6 k x0 x1 x3)))
def waterhourlaw04_RefillWithout.j6 : Nat → List (S51) → List (S51) → List Int → Option (Bool)
 | 0, _, _, _ => none
 | k + 1, x0, x1, x3 => (refill_Joined.f k x0 x1).bind fun bt496 => (if bt496.2 = 0 then (if (x3.length : Int) = (bt496.1.length : Int) then (waterhourlaw04_RefillWithout.j7 k x0 x1 x3 bt496.1 ((bt496.1.length : Int) != (wrap64 ((x0.length : Int) + (x1.length : Int))))) else (waterhourlaw04_RefillWithout.j7 k x0 x1 x3 bt496.1 true)) else (if bt496.2 = 2 then (some ((bt496.1.length : Int) == 0)) else (some false)))
def waterhourlaw04_RefillWithout.j7 : Nat → List (S51) → List (S51) → List Int → List (S51) → Bool → Option (Bool)
 | 0, _, _, _, _, _ => none
 | k + 1, x0, x1, x3, x12, x169 => if x169 = true then (some true) else (if 0 ≤ (x0.length : Int) then (if (x0.length : Int) ≤ (x3.length : Int) then ((refill_CheckTimes.f x0 (x3.take ((x0.length : Int) : Int).toNat)).bind fun t505 => (waterhourlaw04_RefillWithout.l0 k x0 x3 x12 (t505 == 0) x1 (x1.length : Int) 0)) else (none)) else (none))
def waterhourlaw04_RefillWithout.l0 : Nat → List (S51) → List Int → List (S51) → Bool → List (S51) → Int → Int → Option (Bool)
 | 0, _, _, _, _, _, _, _ => none
 | k + 1, x0, x3, x12, x14, x179, x180, x181 => if x181 < x180 then (if 0 ≤ x181 then (if x181 < (x179.length : Int) then (if 0 ≤ (wrap64 ((x0.length : Int) + x181)) then (if (wrap64 ((x0.length : Int) + x181)) < (x3.length : Int) then (if 0 ≤ (wrap64 ((wrap64 ((x0.length : Int) + x181)) - 1)) then (if (wrap64 ((wrap64 ((x0.length : Int) + x181)) - 1)) < (x3.length : Int) then (if x14 = true then (if (wrap64 ((rd x3 (wrap64 ((x0.length : Int) + x181))) - (rd x3 (wrap64 ((wrap64 ((x0.length : Int) + x181)) - 1))))) ≥ ((rd_T51 x179 x181).f0.f0) then (if (wrap64 ((rd x3 (wrap64 ((x0.length : Int) + x181))) - (rd x3 (wrap64 ((wrap64 ((x0.length : Int) + x181)) - 1))))) ≤ ((rd_T51 x179 x181).f0.f1) then ((waterhourref04_Known.f ((rd_T51 x179 x181).f1.f0) ((rd_T51 x179 x181).f1.f1)).bind fun t511 => (if t511 = true then (if (rd x3 (wrap64 ((x0.length : Int) + x181))) ≥ ((rd_T51 x179 x181).f1.f0) then (waterhourlaw04_RefillWithout.l0 k x0 x3 x12 (decide ((rd x3 (wrap64 ((x0.length : Int) + x181))) ≤ ((rd_T51 x179 x181).f1.f1))) x179 x180 (wrap64 (x181 + 1))) else (waterhourlaw04_RefillWithout.l0 k x0 x3 x12 false x179 x180 (wrap64 (x181 + 1)))) else (waterhourlaw04_RefillWithout.l0 k x0 x3 x12 true x179 x180 (wrap64 (x181 + 1))))) else (waterhourlaw04_RefillWithout.l0 k x0 x3 x12 false x179 x180 (wrap64 (x181 + 1)))) else (waterhourlaw04_RefillWithout.l0 k x0 x3 x12 false x179 x180 (wrap64 (x181 + 1)))) else (waterhourlaw04_RefillWithout.l0 k x0 x3 x12 false x179 x180 (wrap64 (x181 + 1)))) else (none)) else (none)) else (none)) else (none)) else (none)) else (none)) else ((refill_CheckTimes.f x12 x3).bind fun t512 => (some ((t512 == 0) == x14)))
def waterhourlaw04_RefillWithout.j1 : Nat → List (S51) → List (S51) → Int → List Int → List (S51) → Bool → Option (Bool)
 | 0, _, _, _, _, _, _ => none
 | k + 1, x0, x1, x2, x3, x9, x60 => if x60 = true then (some false) else ((refill_CheckTimes.f x0 x3).bind fun t451 => (if t451 = 0 then (if 0 ≤ x2 then (if x2 ≤ (x3.length : Int) then (if 0 ≤ (wrap64 (x2 + 1)) then (if (wrap64 (x2 + 1)) ≤ (x3.length : Int) then ((slices_Concat_int_int.f k (([(x3.take (x2 : Int).toNat), (x3.drop ((wrap64 (x2 + 1)) : Int).toNat)] : List (List Int)))).bind fun t465 => ((refill_CheckTimes.f x9 t465).bind fun t468 => (waterhourlaw04_RefillWithout.j2 k x0 x1 x2 x3 x9 (t468 != 0)))) else (none)) else (none)) else (none)) else (none)) else (waterhourlaw04_RefillWithout.j2 k x0 x1 x2 x3 x9 false)))
def waterhourlaw04_RefillWithout.j2 : Nat → List (S51) → List (S51) → Int → List Int → List (S51) → Bool → Option (Bool)
 | 0, _, _, _, _, _, _ => none
 | k + 1, x0, x1, x2, x3, x9, x79 => if x79 = true then (some false) else (if 0 ≤ x2 then (if x2 < (x0.length : Int) then ((waterhourref04_Known.f ((rd_T51 x0 x2).f1.f0) ((rd_T51 x0 x2).f1.f1)).bind fun t470 => (if t470 = true then (waterhourlaw04_RefillWithout.j3 k x0 x1 x2 x3 false) else ((refill_CheckTimes.f x9 x3).bind fun t471 => (waterhourlaw04_RefillWithout.j3 k x0 x1 x2 x3 (t471 == 0))))) else (none)) else (none))
def waterhourlaw04_RefillWithout.j3 : Nat → List (S51) → List (S51) → Int → List Int → Bool → Option (Bool)
 | 0, _, _, _, _, _ => none
 | k + 1, x0, x1, x2, x3, x92 => if x92 = true then (if 0 ≤ x2 then (if x2 < (x0.length : Int) then (if x2 > 0 then (if 0 ≤ (wrap64 (x2 - 1)) then (if (wrap64 (x2 - 1)) < (x3.length : Int) then (waterhourlaw04_RefillWithout.j4 k x0 x1 x2 x3 (wrap64 (((rd_T51 x0 x2).f0.f0) + (rd x3 (wrap64 (x2 - 1)))))) else (none)) else (none)) else (waterhourlaw04_RefillWithout.j4 k x0 x1 x2 x3 ((rd_T51 x0 x2).f0.f0))) else (none)) else (none)) else (waterhourlaw04_RefillWithout.j6 k x0 x1 x3)
def waterhourlaw04_RefillWithout.j4 : Nat → List (S51) → List (S51) → Int → List Int → Int → Option (Bool)
 | 0, _, _, _, _, _ => none
 | k + 1, x0, x1, x2, x3, x11 => if x2 < (x3.length : Int) then (if 0 ≤ x2 then (if 0 ≤ (wrap64 (x2 + 1)) then (if (wrap64 (x2 + 1)) < (x0.length : Int) then (waterhourlaw04_RefillWithout.j5 k x0 x1 x2 x3 (mx x11 (wrap64 ((rd x3 x2) - ((rd_T51 x0 (wrap64 (x2 + 1))).f0.f1))))) else (none)) else (none)) else (none)) else (waterhourlaw04_RefillWithout.j5 k x0 x1 x2 x3 x11)
def waterhourlaw04_RefillWithout.j5 : Nat → List (S51) → List (S51) → Int → List Int → Int → Option (Bool)
 | 0, _, _, _, _, _ => none
 | k + 1, x0, x1, x2, x3, x11 => if 0 ≤ x2 then (if x2 ≤ (x3.length : Int) then ((slices_Concat_int_int.f k (([(x3.take (x2 : Int).toNat), (([x11] : List Int)), (x3.drop (x2 : Int).toNat)] : List (List Int)))).bind fun t492 => ((refill_CheckTimes.f x0 t492).bind fun t495 => (if t495 = 0 then (waterhourlaw04_RefillWithout.j6 k x0 x1 x3) else (some false)))) else (none)) else (none)
end
def waterhourlaw04_RefillWithout.f (k : Nat) (l0 : List (S51)) (l1 : List (S51)) (a2 : Int) (l3 : List Int) : Option (Bool) := (law_sane.f).bind fun t438 => (if t438 = true then ((waterhourref04_Valid.f k l0).bind fun t439 => (if t439 = true then ((waterhourref04_Valid.f k l1).bind fun t440 => (if t440 = true then ((waterhourlaw04_few.f k l0 (([l3] : List (List Int)))).bind fun t444 => (waterhourlaw04_RefillWithout.j0 k l0 l1 a2 l3 (!t444))) else (waterhourlaw04_RefillWithout.j0 k l0 l1 a2 l3 true))) else (waterhourlaw04_RefillWithout.j0 k l0 l1 a2 l3 true))) else (some false))
theorem waterhourlaw04_RefillWithout.mono_l : ∀ k, (∀ y0 y1 y2 y3 y4, LeO (waterhourlaw04_RefillWithout.j0 k y0 y1 y2 y3 y4) (waterhourlaw04_RefillWithout.j0 (k + 1) y0 y1 y2 y3 y4)) ∧ (∀ y0 y1 y2, LeO (waterhourlaw04_RefillWithout.j6 k y0 y1 y2) (waterhourlaw04_RefillWithout.j6 (k + 1) y0 y1 y2)) ∧ (∀ y0 y1 y2 y3 y4, LeO (waterhourlaw04_RefillWithout.j7 k y0 y1 y2 y3 y4) (waterhourlaw04_RefillWithout.j7 (k + 1) y0 y1 y2 y3 y4)) ∧ (∀ y0 y1 y2 y3 y4 y5 y6, LeO (waterhourlaw04_RefillWithout.l0 k y0 y1 y2 y3 y4 y5 y6) (waterhourlaw04_RefillWithout.l0 (k + 1) y0 y1 y2 y3 y4 y5 y6)) ∧ (∀ y0 y1 y2 y3 y4 y5, LeO (waterhourlaw04_RefillWithout.j1 k y0 y1 y2 y3 y4 y5) (waterhourlaw04_RefillWithout.j1 (k + 1) y0 y1 y2 y3 y4 y5)) ∧ (∀ y0 y1 y2 y3 y4 y5, LeO (waterhourlaw04_RefillWithout.j2 k y0 y1 y2 y3 y4 y5) (waterhourlaw04_RefillWithout.j2 (k + 1) y0 y1 y2 y3 y4 y5)) ∧ (∀ y0 y1 y2 y3 y4, LeO (waterhourlaw04_RefillWithout.j3 k y0 y1 y2 y3 y4) (waterhourlaw04_RefillWithout.j3 (k + 1) y0 y1 y2 y3 y4)) ∧ (∀ y0 y1 y2 y3 y4, LeO (waterhourlaw04_RefillWithout.j4 k y0 y1 y2 y3 y4) (waterhourlaw04_RefillWithout.j4 (k + 1) y0 y1 y2 y3 y4)) ∧ (∀ y0 y1 y2 y3 y4, LeO (waterhourlaw04_RefillWithout.j5 k y0 y1 y2 y3 y4) (waterhourlaw04_RefillWithout.j5 (k + 1) y0 y1 y2 y3 y4))
 | 0 => ⟨fun _ _ _ _ _ r h => by simp [waterhourlaw04_RefillWithout.j0] at h, fun _ _ _ r h => by simp [waterhourlaw04_RefillWithout.j6] at h, fun _ _ _ _ _ r h => by simp [waterhourlaw04_RefillWithout.j7] at h, fun _ _ _ _ _ _ _ r h => by simp [waterhourlaw04_RefillWithout.l0] at h, fun _ _ _ _ _ _ r h => by simp [waterhourlaw04_RefillWithout.j1] at h, fun _ _ _ _ _ _ r h => by simp [waterhourlaw04_RefillWithout.j2] at h, fun _ _ _ _ _ r h => by simp [waterhourlaw04_RefillWithout.j3] at h, fun _ _ _ _ _ r h => by simp [waterhourlaw04_RefillWithout.j4] at h, fun _ _ _ _ _ r h => by simp [waterhourlaw04_RefillWithout.j5] at h⟩
 | k + 1 => by
  obtain ⟨ih0, ih1, ih2, ih3, ih4, ih5, ih6, ih7, ih8⟩ := waterhourlaw04_RefillWithout.mono_l k
  refine ⟨?_, ?_, ?_, ?_, ?_, ?_, ?_, ?_, ?_⟩
  ·intro y0 y1 y2 y3 y4
   unfold waterhourlaw04_RefillWithout.j0
   repeat' first
   | (with_reducible exact ih0 _ _ _ _ _)
   | (with_reducible exact ih1 _ _ _)
   | (with_reducible exact ih2 _ _ _ _ _)
   | (with_reducible exact ih3 _ _ _ _ _ _ _)
   | (with_reducible exact ih4 _ _ _ _ _ _)
   | (with_reducible exact ih5 _ _ _ _ _ _)
   | (with_reducible exact ih6 _ _ _ _ _)
   | (with_reducible exact ih7 _ _ _ _ _)
   | (with_reducible exact ih8 _ _ _ _ _)
   | (with_reducible exact refill_Joined.mono _ _ _)
   | (with_reducible exact slices_Concat_int_int.mono _ _)
   | (with_reducible exact waterhourlaw04_few.mono _ _ _)
   | (with_reducible exact waterhourref04_Valid.mono _ _)
   | (with_reducible exact LeO.refl _)
   | (with_reducible exact LeO.none _)
   | (with_reducible refine LeO.ite ?_ ?_)
   | (with_reducible refine LeO.bind ?_ (fun _ => ?_))
   | exact ih0 _ _ _ _ _
   | exact ih1 _ _ _
   | exact ih2 _ _ _ _ _
   | exact ih3 _ _ _ _ _ _ _
   | exact ih4 _ _ _ _ _ _
   | exact ih5 _ _ _ _ _ _
   | exact ih6 _ _ _ _ _
   | exact ih7 _ _ _ _ _
   | exact ih8 _ _ _ _ _
   | exact refill_Joined.mono _ _ _
   | exact slices_Concat_int_int.mono _ _
   | exact waterhourlaw04_few.mono _ _ _
   | exact waterhourref04_Valid.mono _ _
   | exact LeO.none _
   | refine LeO.ite ?_ ?_
   | refine LeO.bind ?_ (fun _ => ?_)
  ·intro y0 y1 y2
   unfold waterhourlaw04_RefillWithout.j6
   repeat' first
   | (with_reducible exact ih0 _ _ _ _ _)
   | (with_reducible exact ih1 _ _ _)
   | (with_reducible exact ih2 _ _ _ _ _)
   | (with_reducible exact ih3 _ _ _ _ _ _ _)
   | (with_reducible exact ih4 _ _ _ _ _ _)
   | (with_reducible exact ih5 _ _ _ _ _ _)
   | (with_reducible exact ih6 _ _ _ _ _)
   | (with_reducible exact ih7 _ _ _ _ _)
   | (with_reducible exact ih8 _ _ _ _ _)
   | (with_reducible exact refill_Joined.mono _ _ _)
   | (with_reducible exact slices_Concat_int_int.mono _ _)
   | (with_reducible exact waterhourlaw04_few.mono _ _ _)
   | (with_reducible exact waterhourref04_Valid.mono _ _)
   | (with_reducible exact LeO.refl _)
   | (with_reducible exact LeO.none _)
   | (with_reducible refine LeO.ite ?_ ?_)
   | (with_reducible refine LeO.bind ?_ (fun _ => ?_))
   | exact ih0 _ _ _ _ _
   | exact ih1 _ _ _
   | exact ih2 _ _ _ _ _
   | exact ih3 _ _ _ _ _ _ _
   | exact ih4 _ _ _ _ _ _
   | exact ih5 _ _ _ _ _ _
   | exact ih6 _ _ _ _ _
   | exact ih7 _ _ _ _ _
   | exact ih8 _ _ _ _ _
   | exact refill_Joined.mono _ _ _
   | exact slices_Concat_int_int.mono _ _
   | exact waterhourlaw04_few.mono _ _ _
   | exact waterhourref04_Valid.mono _ _
   | exact LeO.none _
   | refine LeO.ite ?_ ?_
   | refine LeO.bind ?_ (fun _ => ?_)
  ·intro y0 y1 y2 y3 y4
   unfold waterhourlaw04_RefillWithout.j7
   repeat' first
   | (with_reducible exact ih0 _ _ _ _ _)
   | (with_reducible exact ih1 _ _ _)
   | (with_reducible exact ih2 _ _ _ _ _)
   | (with_reducible exact ih3 _ _ _ _ _ _ _)
   | (with_reducible exact ih4 _ _ _ _ _ _)
   | (with_reducible exact ih5 _ _ _ _ _ _)
   | (with_reducible exact ih6 _ _ _ _ _)
   | (with_reducible exact ih7 _ _ _ _ _)
   | (with_reducible exact ih8 _ _ _ _ _)
   | (with_reducible exact refill_Joined.mono _ _ _)
   | (with_reducible exact slices_Concat_int_int.mono _ _)
   | (with_reducible exact waterhourlaw04_few.mono _ _ _)
   | (with_reducible exact waterhourref04_Valid.mono _ _)
   | (with_reducible exact LeO.refl _)
   | (with_reducible exact LeO.none _)
   | (with_reducible refine LeO.ite ?_ ?_)
   | (with_reducible refine LeO.bind ?_ (fun _ => ?_))
   | exact ih0 _ _ _ _ _
   | exact ih1 _ _ _
   | exact ih2 _ _ _ _ _
   | exact ih3 _ _ _ _ _ _ _
   | exact ih4 _ _ _ _ _ _
   | exact ih5 _ _ _ _ _ _
   | exact ih6 _ _ _ _ _
   | exact ih7 _ _ _ _ _
   | exact ih8 _ _ _ _ _
   | exact refill_Joined.mono _ _ _
   | exact slices_Concat_int_int.mono _ _
   | exact waterhourlaw04_few.mono _ _ _
   | exact waterhourref04_Valid.mono _ _
   | exact LeO.none _
   | refine LeO.ite ?_ ?_
   | refine LeO.bind ?_ (fun _ => ?_)
  ·intro y0 y1 y2 y3 y4 y5 y6
   unfold waterhourlaw04_RefillWithout.l0
   repeat' first
   | (with_reducible exact ih0 _ _ _ _ _)
   | (with_reducible exact ih1 _ _ _)
   | (with_reducible exact ih2 _ _ _ _ _)
   | (with_reducible exact ih3 _ _ _ _ _ _ _)
   | (with_reducible exact ih4 _ _ _ _ _ _)
   | (with_reducible exact ih5 _ _ _ _ _ _)
   | (with_reducible exact ih6 _ _ _ _ _)
   | (with_reducible exact ih7 _ _ _ _ _)
   | (with_reducible exact ih8 _ _ _ _ _)
   | (with_reducible exact refill_Joined.mono _ _ _)
   | (with_reducible exact slices_Concat_int_int.mono _ _)
   | (with_reducible exact waterhourlaw04_few.mono _ _ _)
   | (with_reducible exact waterhourref04_Valid.mono _ _)
   | (with_reducible exact LeO.refl _)
   | (with_reducible exact LeO.none _)
   | (with_reducible refine LeO.ite ?_ ?_)
   | (with_reducible refine LeO.bind ?_ (fun _ => ?_))
   | exact ih0 _ _ _ _ _
   | exact ih1 _ _ _
   | exact ih2 _ _ _ _ _
   | exact ih3 _ _ _ _ _ _ _
   | exact ih4 _ _ _ _ _ _
   | exact ih5 _ _ _ _ _ _
   | exact ih6 _ _ _ _ _
   | exact ih7 _ _ _ _ _
   | exact ih8 _ _ _ _ _
   | exact refill_Joined.mono _ _ _
   | exact slices_Concat_int_int.mono _ _
   | exact waterhourlaw04_few.mono _ _ _
   | exact waterhourref04_Valid.mono _ _
   | exact LeO.none _
   | refine LeO.ite ?_ ?_
   | refine LeO.bind ?_ (fun _ => ?_)
  ·intro y0 y1 y2 y3 y4 y5
   unfold waterhourlaw04_RefillWithout.j1
   repeat' first
   | (with_reducible exact ih0 _ _ _ _ _)
   | (with_reducible exact ih1 _ _ _)
   | (with_reducible exact ih2 _ _ _ _ _)
   | (with_reducible exact ih3 _ _ _ _ _ _ _)
   | (with_reducible exact ih4 _ _ _ _ _ _)
   | (with_reducible exact ih5 _ _ _ _ _ _)
   | (with_reducible exact ih6 _ _ _ _ _)
   | (with_reducible exact ih7 _ _ _ _ _)
   | (with_reducible exact ih8 _ _ _ _ _)
   | (with_reducible exact refill_Joined.mono _ _ _)
   | (with_reducible exact slices_Concat_int_int.mono _ _)
   | (with_reducible exact waterhourlaw04_few.mono _ _ _)
   | (with_reducible exact waterhourref04_Valid.mono _ _)
   | (with_reducible exact LeO.refl _)
   | (with_reducible exact LeO.none _)
   | (with_reducible refine LeO.ite ?_ ?_)
   | (with_reducible refine LeO.bind ?_ (fun _ => ?_))
   | exact ih0 _ _ _ _ _
   | exact ih1 _ _ _
   | exact ih2 _ _ _ _ _
   | exact ih3 _ _ _ _ _ _ _
   | exact ih4 _ _ _ _ _ _
   | exact ih5 _ _ _ _ _ _
   | exact ih6 _ _ _ _ _
   | exact ih7 _ _ _ _ _
   | exact ih8 _ _ _ _ _
   | exact refill_Joined.mono _ _ _
   | exact slices_Concat_int_int.mono _ _
   | exact waterhourlaw04_few.mono _ _ _
   | exact waterhourref04_Valid.mono _ _
   | exact LeO.none _
   | refine LeO.ite ?_ ?_
   | refine LeO.bind ?_ (fun _ => ?_)
  ·intro y0 y1 y2 y3 y4 y5
   unfold waterhourlaw04_RefillWithout.j2
   repeat' first
   | (with_reducible exact ih0 _ _ _ _ _)
   | (with_reducible exact ih1 _ _ _)
   | (with_reducible exact ih2 _ _ _ _ _)
   | (with_reducible exact ih3 _ _ _ _ _ _ _)
   | (with_reducible exact ih4 _ _ _ _ _ _)
   | (with_reducible exact ih5 _ _ _ _ _ _)
   | (with_reducible exact ih6 _ _ _ _ _)
   | (with_reducible exact ih7 _ _ _ _ _)
   | (with_reducible exact ih8 _ _ _ _ _)
   | (with_reducible exact refill_Joined.mono _ _ _)
   | (with_reducible exact slices_Concat_int_int.mono _ _)
   | (with_reducible exact waterhourlaw04_few.mono _ _ _)
   | (with_reducible exact waterhourref04_Valid.mono _ _)
   | (with_reducible exact LeO.refl _)
   | (with_reducible exact LeO.none _)
   | (with_reducible refine LeO.ite ?_ ?_)
   | (with_reducible refine LeO.bind ?_ (fun _ => ?_))
   | exact ih0 _ _ _ _ _
   | exact ih1 _ _ _
   | exact ih2 _ _ _ _ _
   | exact ih3 _ _ _ _ _ _ _
   | exact ih4 _ _ _ _ _ _
   | exact ih5 _ _ _ _ _ _
   | exact ih6 _ _ _ _ _
   | exact ih7 _ _ _ _ _
   | exact ih8 _ _ _ _ _
   | exact refill_Joined.mono _ _ _
   | exact slices_Concat_int_int.mono _ _
   | exact waterhourlaw04_few.mono _ _ _
   | exact waterhourref04_Valid.mono _ _
   | exact LeO.none _
   | refine LeO.ite ?_ ?_
   | refine LeO.bind ?_ (fun _ => ?_)
  ·intro y0 y1 y2 y3 y4
   unfold waterhourlaw04_RefillWithout.j3
   repeat' first
   | (with_reducible exact ih0 _ _ _ _ _)
   | (with_reducible exact ih1 _ _ _)
   | (with_reducible exact ih2 _ _ _ _ _)
   | (with_reducible exact ih3 _ _ _ _ _ _ _)
   | (with_reducible exact ih4 _ _ _ _ _ _)
   | (with_reducible exact ih5 _ _ _ _ _ _)
   | (with_reducible exact ih6 _ _ _ _ _)
   | (with_reducible exact ih7 _ _ _ _ _)
   | (with_reducible exact ih8 _ _ _ _ _)
   | (with_reducible exact refill_Joined.mono _ _ _)
   | (with_reducible exact slices_Concat_int_int.mono _ _)
   | (with_reducible exact waterhourlaw04_few.mono _ _ _)
   | (with_reducible exact waterhourref04_Valid.mono _ _)
   | (with_reducible exact LeO.refl _)
   | (with_reducible exact LeO.none _)
   | (with_reducible refine LeO.ite ?_ ?_)
   | (with_reducible refine LeO.bind ?_ (fun _ => ?_))
   | exact ih0 _ _ _ _ _
   | exact ih1 _ _ _
   | exact ih2 _ _ _ _ _
   | exact ih3 _ _ _ _ _ _ _
   | exact ih4 _ _ _ _ _ _
   | exact ih5 _ _ _ _ _ _
   | exact ih6 _ _ _ _ _
   | exact ih7 _ _ _ _ _
   | exact ih8 _ _ _ _ _
   | exact refill_Joined.mono _ _ _
   | exact slices_Concat_int_int.mono _ _
   | exact waterhourlaw04_few.mono _ _ _
   | exact waterhourref04_Valid.mono _ _
   | exact LeO.none _
   | refine LeO.ite ?_ ?_
   | refine LeO.bind ?_ (fun _ => ?_)
  ·intro y0 y1 y2 y3 y4
   unfold waterhourlaw04_RefillWithout.j4
   repeat' first
   | (with_reducible exact ih0 _ _ _ _ _)
   | (with_reducible exact ih1 _ _ _)
   | (with_reducible exact ih2 _ _ _ _ _)
   | (with_reducible exact ih3 _ _ _ _ _ _ _)
   | (with_reducible exact ih4 _ _ _ _ _ _)
   | (with_reducible exact ih5 _ _ _ _ _ _)
   | (with_reducible exact ih6 _ _ _ _ _)
   | (with_reducible exact ih7 _ _ _ _ _)
   | (with_reducible exact ih8 _ _ _ _ _)
   | (with_reducible exact refill_Joined.mono _ _ _)
   | (with_reducible exact slices_Concat_int_int.mono _ _)
   | (with_reducible exact waterhourlaw04_few.mono _ _ _)
   | (with_reducible exact waterhourref04_Valid.mono _ _)
   | (with_reducible exact LeO.refl _)
   | (with_reducible exact LeO.none _)
   | (with_reducible refine LeO.ite ?_ ?_)
   | (with_reducible refine LeO.bind ?_ (fun _ => ?_))
   | exact ih0 _ _ _ _ _
   | exact ih1 _ _ _
   | exact ih2 _ _ _ _ _
   | exact ih3 _ _ _ _ _ _ _
   | exact ih4 _ _ _ _ _ _
   | exact ih5 _ _ _ _ _ _
   | exact ih6 _ _ _ _ _
   | exact ih7 _ _ _ _ _
   | exact ih8 _ _ _ _ _
   | exact refill_Joined.mono _ _ _
   | exact slices_Concat_int_int.mono _ _
   | exact waterhourlaw04_few.mono _ _ _
   | exact waterhourref04_Valid.mono _ _
   | exact LeO.none _
   | refine LeO.ite ?_ ?_
   | refine LeO.bind ?_ (fun _ => ?_)
  ·intro y0 y1 y2 y3 y4
   unfold waterhourlaw04_RefillWithout.j5
   repeat' first
   | (with_reducible exact ih0 _ _ _ _ _)
   | (with_reducible exact ih1 _ _ _)
   | (with_reducible exact ih2 _ _ _ _ _)
   | (with_reducible exact ih3 _ _ _ _ _ _ _)
   | (with_reducible exact ih4 _ _ _ _ _ _)
   | (with_reducible exact ih5 _ _ _ _ _ _)
   | (with_reducible exact ih6 _ _ _ _ _)
   | (with_reducible exact ih7 _ _ _ _ _)
   | (with_reducible exact ih8 _ _ _ _ _)
   | (with_reducible exact refill_Joined.mono _ _ _)
   | (with_reducible exact slices_Concat_int_int.mono _ _)
   | (with_reducible exact waterhourlaw04_few.mono _ _ _)
   | (with_reducible exact waterhourref04_Valid.mono _ _)
   | (with_reducible exact LeO.refl _)
   | (with_reducible exact LeO.none _)
   | (with_reducible refine LeO.ite ?_ ?_)
   | (with_reducible refine LeO.bind ?_ (fun _ => ?_))
   | exact ih0 _ _ _ _ _
   | exact ih1 _ _ _
   | exact ih2 _ _ _ _ _
   | exact ih3 _ _ _ _ _ _ _
   | exact ih4 _ _ _ _ _ _
   | exact ih5 _ _ _ _ _ _
   | exact ih6 _ _ _ _ _
   | exact ih7 _ _ _ _ _
   | exact ih8 _ _ _ _ _
   | exact refill_Joined.mono _ _ _
   | exact slices_Concat_int_int.mono _ _
   | exact waterhourlaw04_few.mono _ _ _
   | exact waterhourref04_Valid.mono _ _
   | exact LeO.none _
   | refine LeO.ite ?_ ?_
   | refine LeO.bind ?_ (fun _ => ?_)
theorem waterhourlaw04_RefillWithout.mono : ∀ a0 a1 a2 a3 k, LeO (waterhourlaw04_RefillWithout.f k a0 a1 a2 a3) (waterhourlaw04_RefillWithout.f (k + 1) a0 a1 a2 a3) := by
 intro a0 a1 a2 a3 k
 obtain ⟨ih0, ih1, ih2, ih3, ih4, ih5, ih6, ih7, ih8⟩ := waterhourlaw04_RefillWithout.mono_l k
 unfold waterhourlaw04_RefillWithout.f
 repeat' first
   | (with_reducible exact ih0 _ _ _ _ _)
   | (with_reducible exact ih1 _ _ _)
   | (with_reducible exact ih2 _ _ _ _ _)
   | (with_reducible exact ih3 _ _ _ _ _ _ _)
   | (with_reducible exact ih4 _ _ _ _ _ _)
   | (with_reducible exact ih5 _ _ _ _ _ _)
   | (with_reducible exact ih6 _ _ _ _ _)
   | (with_reducible exact ih7 _ _ _ _ _)
   | (with_reducible exact ih8 _ _ _ _ _)
   | (with_reducible exact refill_Joined.mono _ _ _)
   | (with_reducible exact slices_Concat_int_int.mono _ _)
   | (with_reducible exact waterhourlaw04_few.mono _ _ _)
   | (with_reducible exact waterhourref04_Valid.mono _ _)
   | (with_reducible exact LeO.refl _)
   | (with_reducible exact LeO.none _)
   | (with_reducible refine LeO.ite ?_ ?_)
   | (with_reducible refine LeO.bind ?_ (fun _ => ?_))
   | exact ih0 _ _ _ _ _
   | exact ih1 _ _ _
   | exact ih2 _ _ _ _ _
   | exact ih3 _ _ _ _ _ _ _
   | exact ih4 _ _ _ _ _ _
   | exact ih5 _ _ _ _ _ _
   | exact ih6 _ _ _ _ _
   | exact ih7 _ _ _ _ _
   | exact ih8 _ _ _ _ _
   | exact refill_Joined.mono _ _ _
   | exact slices_Concat_int_int.mono _ _
   | exact waterhourlaw04_few.mono _ _ _
   | exact waterhourref04_Valid.mono _ _
   | exact LeO.none _
   | refine LeO.ite ?_ ?_
   | refine LeO.bind ?_ (fun _ => ?_)
def waterhourlaw04_RefillWithout.T9 : Bool × List (List Nat × List Nat) := (true, [([], []), ([], []), ([0, 1], [0, 1]), ([2], [2]), ([3, 2], [3]), ([4], [4]), ([4], [4]), ([4], [4]), ([4], [4]), ([6, 7, 8, 4], [4, 6, 7, 8]), ([4], [4]), ([4], [4]), ([11, 4], [4, 11]), ([10, 12, 4], [4, 10, 12]), ([9, 13, 4], [4, 9, 13]), ([14, 4, 4], [4, 14]), ([5, 15, 15, 4], [4, 5, 15]), ([16, 4], [4, 16]), ([4, 17], [4, 17])])
def waterhourlaw04_RefillWithout.B9 : List Nat := [0, 0, 3, 7, 15, 31, 31, 31, 31, 479, 31, 31, 2079, 7199, 16351, 32735, 65535, 131071, 262143]
theorem waterhourlaw04_RefillWithout.tab9 : rtab .any (opsOf Tryd.f7 9) = waterhourlaw04_RefillWithout.T9 := by kernel_rfl
theorem waterhourlaw04_RefillWithout.bits9 : waitsOk waterhourlaw04_RefillWithout.T9.2 waterhourlaw04_RefillWithout.B9 = true := by kernel_rfl
def waterhourlaw04_RefillWithout.T16 : Bool × List (List Nat × List Nat) := (true, [([], []), ([], []), ([], []), ([1, 2], [1, 2]), ([3], [3]), ([], []), ([], []), ([6], [6]), ([5, 7], [5, 7]), ([8], [8]), ([9], [9]), ([10], [10]), ([4, 11], [4, 11]), ([0, 12], [0, 12]), ([13, 0, 1, 2, 3, 4, 5, 6, 7, 8, 9, 10, 11, 12, 13], [0, 13])])
def waterhourlaw04_RefillWithout.B16 : List Nat := [0, 0, 0, 6, 14, 0, 0, 64, 224, 480, 992, 2016, 4094, 8191, 16383]
theorem waterhourlaw04_RefillWithout.tab16 : rtab .any (opsOf Tryd.f7 16) = waterhourlaw04_RefillWithout.T16 := by kernel_rfl
theorem waterhourlaw04_RefillWithout.bits16 : waitsOk waterhourlaw04_RefillWithout.T16.2 waterhourlaw04_RefillWithout.B16 = true := by kernel_rfl
def waterhourlaw04_RefillWithout.T17 : Bool × List (List Nat × List Nat) := (true, [([], []), ([], []), ([], []), ([], []), ([1, 2, 3], [1, 2, 3]), ([], []), ([5], [5]), ([], []), ([], []), ([7, 8], [7, 8]), ([4, 6, 9], [4, 6, 9]), ([10], [10]), ([0, 11, 11], [0, 11]), ([12], [12])])
def waterhourlaw04_RefillWithout.B17 : List Nat := [0, 0, 0, 0, 14, 0, 32, 0, 0, 384, 1022, 2046, 4095, 8191]
theorem waterhourlaw04_RefillWithout.tab17 : rtab .any (opsOf Tryd.f7 17) = waterhourlaw04_RefillWithout.T17 := by kernel_rfl
theorem waterhourlaw04_RefillWithout.bits17 : waitsOk waterhourlaw04_RefillWithout.T17.2 waterhourlaw04_RefillWithout.B17 = true := by kernel_rfl
def waterhourlaw04_RefillWithout.T28 : Bool × List (List Nat × List Nat) := (true, [([], []), ([], []), ([1], [1]), ([], []), ([2, 3], [2, 3]), ([0, 4], [0, 4]), ([5], [5]), ([], []), ([], []), ([8], [8]), ([], []), ([9, 10], [9, 10]), ([11], [11]), ([7, 12], [7, 12]), ([13], [13]), ([6, 14], [6, 14]), ([], []), ([], []), ([17], [17]), ([], []), ([18, 19], [18, 19]), ([16, 20], [16, 20]), ([21], [21]), ([15, 0, 1, 2, 3, 4, 5, 6, 7, 8, 9, 10, 11, 12, 13, 14, 15], [15]), ([22, 23, 0, 1, 2, 3, 4, 5, 6, 7, 8, 9, 10, 11, 12, 13, 14, 15, 16, 17, 18, 19, 20, 21, 22, 23], [22])])
def waterhourlaw04_RefillWithout.B28 : List Nat := [0, 0, 2, 0, 14, 31, 63, 0, 0, 256, 0, 1792, 3840, 8064, 16256, 32767, 0, 0, 131072, 0, 917504, 2031616, 4128768, 65535, 16777215]
theorem waterhourlaw04_RefillWithout.tab28 : rtab .any (opsOf Tryd.f7 28) = waterhourlaw04_RefillWithout.T28 := by kernel_rfl
theorem waterhourlaw04_RefillWithout.bits28 : waitsOk waterhourlaw04_RefillWithout.T28.2 waterhourlaw04_RefillWithout.B28 = true := by kernel_rfl
set_option maxHeartbeats 8000000 in
set_option maxRecDepth 100000 in
theorem waterhourlaw04_RefillWithout.calls (k : Nat) (A0 : Option Addr) (c0 : Nat) (l0 : List (S51)) (A1 : Option Addr) (c1 : Nat) (l1 : List (S51)) (a2 : Int) (P3_ : Nat → Prop) (A3 : Option Addr) (c3 : Nat) (l3 : List Int) (r : Bool) (w : World) (hr0 : Kd.C k51 w A0 l0.length l0) (hc0 : l0.length ≤ c0) (hr1 : Kd.C k51 w A1 l1.length l1) (hc1 : l1.length ≤ c1) (hs3 : Kd.V (Kd.int .i64) 3 w w.heap.size (fun k_ => P3_ k_) (.slice A3 l3.length c3) l3) (ht : TabB w) (hrt : Aside0 (r = true)) (h : waterhourlaw04_RefillWithout.f k l0 l1 a2 l3 = some r) :
  Calls Tryd.prog 7 #[.slice A0 l0.length c0, .slice A1 l1.length c1, .int .i64 a2, .slice A3 l3.length c3] w fun e w' => e = .returned (.bool r) ∧ Below w.heap.size w w' := by
 have hu49 := Tryd.underlying49
 have hu51 := Tryd.underlying51
 have HR0 := a_ hr0
 have HC0 := a_ hc0
 clear hr0 hc0
 have HR1 := a_ hr1
 have HC1 := a_ hc1
 clear hr1 hc1
 have HO3 := a_ (show Kd.V (Kd.int .i64) 3 w w.heap.size (fun k_ => (P3_ k_ ∨ w.heap.size ≤ k_)) (.slice A3 l3.length c3) l3 from Kd.V_mono hs3 (fun k_ hk => .inl hk))
 have HT := a_ ht
 clear ht
 have HB := a_ (Below.refl w.heap.size w)
 have H : ((law_sane.f).bind fun t438 => (if t438 = true then ((waterhourref04_Valid.f k l0).bind fun t439 => (if t439 = true then ((waterhourref04_Valid.f k l1).bind fun t440 => (if t440 = true then ((waterhourlaw04_few.f k l0 (([l3] : List (List Int)))).bind fun t444 => (waterhourlaw04_RefillWithout.j0 k l0 l1 a2 l3 (!t444))) else (waterhourlaw04_RefillWithout.j0 k l0 l1 a2 l3 true))) else (waterhourlaw04_RefillWithout.j0 k l0 l1 a2 l3 true))) else (some false))) = some r := h
 clear h
 replace H := Option.bind_eq_some_iff.mp H
 obtain ⟨t438, A50, H⟩ := H
 replace H : (if t438 = true then ((waterhourref04_Valid.f k l0).bind fun t439 => (if t439 = true then ((waterhourref04_Valid.f k l1).bind fun t440 => (if t440 = true then ((waterhourlaw04_few.f k l0 (([l3] : List (List Int)))).bind fun t444 => (waterhourlaw04_RefillWithout.j0 k l0 l1 a2 l3 (!t444))) else (waterhourlaw04_RefillWithout.j0 k l0 l1 a2 l3 true))) else (waterhourlaw04_RefillWithout.j0 k l0 l1 a2 l3 true))) else (some false)) = some r := H
 have A5 := a_ A50
 clear A50
 by_cases c6 : t438 = true
 ·subst c6
  have H1 : ((waterhourref04_Valid.f k l0).bind fun t439 => (if t439 = true then ((waterhourref04_Valid.f k l1).bind fun t440 => (if t440 = true then ((waterhourlaw04_few.f k l0 (([l3] : List (List Int)))).bind fun t444 => (waterhourlaw04_RefillWithout.j0 k l0 l1 a2 l3 (!t444))) else (waterhourlaw04_RefillWithout.j0 k l0 l1 a2 l3 true))) else (waterhourlaw04_RefillWithout.j0 k l0 l1 a2 l3 true))) = some r := by rw [if_pos rfl] at H; exact H
  clear H
  have H := H1
  clear H1
  have HC7 := a_ H
  clear H
  go_enter Tryd.func7, Tryd.ntmps7
  go_upto_region 3 with (first | ((with_reducible refine gate_callee (f := 18) rfl ?_); refine goesL_ (some 19) rfl rfl Tryd.func18 (by kernel_rfl) rfl #[] rfl tm_ ?_; (with_reducible refine (law_sane.calls  true _ ?side1 A5.out).mono ?_); (case side1 => exact TabB.below HT.out bl_); rintro e w8 ⟨rfl, hb⟩; refine ⟨_, rfl, ?_⟩; have n0_ := a_ (Kd.V_below (vl_ HO3.out) hb); have n1_ := a_ (below_step bl_ hb); clear HO3; clear HB; have HO3 := n0_; have HB := n1_; clear n0_ n1_; (try clear hb); (try clear hb2); (try clear hk); (try clear hi)))
  (try simp only [Act.put, List.setIfInBounds_toArray, List.set_cons_zero, List.set_cons_succ])
  go_cut [35] (fun v35 wc => ∃ (kq : Nat) (x35_6 : Bool), v35 = .bool x35_6 ∧ Aside0 (waterhourlaw04_RefillWithout.j0 kq l0 l1 a2 l3 x35_6 = some r) ∧ Aside0 (kq ≤ k) ∧ Aside0 (Kd.V (Kd.int .i64) 3 wc w.heap.size (fun k_ => (P3_ k_ ∨ w.heap.size ≤ k_)) (.slice A3 l3.length c3) l3) ∧ Aside0 (Below w.heap.size w wc))
  case first => as_aux_lemma =>
   have H := HC7.out
   clear HC7
   replace H := Option.bind_eq_some_iff.mp H
   obtain ⟨t439, A90, H⟩ := H
   replace H : (if t439 = true then ((waterhourref04_Valid.f k l1).bind fun t440 => (if t440 = true then ((waterhourlaw04_few.f k l0 (([l3] : List (List Int)))).bind fun t444 => (waterhourlaw04_RefillWithout.j0 k l0 l1 a2 l3 (!t444))) else (waterhourlaw04_RefillWithout.j0 k l0 l1 a2 l3 true))) else (waterhourlaw04_RefillWithout.j0 k l0 l1 a2 l3 true)) = some r := H
   have A9 := a_ A90
   clear A90
   by_cases c10 : t439 = true
   ·subst c10
    have H1 : ((waterhourref04_Valid.f k l1).bind fun t440 => (if t440 = true then ((waterhourlaw04_few.f k l0 (([l3] : List (List Int)))).bind fun t444 => (waterhourlaw04_RefillWithout.j0 k l0 l1 a2 l3 (!t444))) else (waterhourlaw04_RefillWithout.j0 k l0 l1 a2 l3 true))) = some r := by rw [if_pos rfl] at H; exact H
    clear H
    have H := H1
    clear H1
    replace H := Option.bind_eq_some_iff.mp H
    obtain ⟨t440, A110, H⟩ := H
    replace H : (if t440 = true then ((waterhourlaw04_few.f k l0 (([l3] : List (List Int)))).bind fun t444 => (waterhourlaw04_RefillWithout.j0 k l0 l1 a2 l3 (!t444))) else (waterhourlaw04_RefillWithout.j0 k l0 l1 a2 l3 true)) = some r := H
    have A11 := a_ A110
    clear A110
    by_cases c12 : t440 = true
    ·subst c12
     have H1 : ((waterhourlaw04_few.f k l0 (([l3] : List (List Int)))).bind fun t444 => (waterhourlaw04_RefillWithout.j0 k l0 l1 a2 l3 (!t444))) = some r := by rw [if_pos rfl] at H; exact H
     clear H
     have H := H1
     clear H1
     obtain ⟨y441, hy441⟩ : ∃ y_ : List (List Int), y_ = (([l3] : List (List Int))) := ⟨_, rfl⟩
     replace H : ((waterhourlaw04_few.f k l0 y441).bind fun t444 => (waterhourlaw04_RefillWithout.j0 k l0 l1 a2 l3 (!t444))) = some r := by first | (rw [hy441]; with_reducible exact H) | (have H2_ := (Option.bind_some _ _).symm.trans H; rw [hy441]; with_reducible exact H2_) | (have H2_ := (Option.bind_some _ _).symm.trans H; with_reducible exact H2_) | with_reducible exact H | (rw [hy441]; exact H) | exact H
     have Ny441 := a_ hy441
     clear hy441
     replace H := Option.bind_eq_some_iff.mp H
     obtain ⟨t444, A130, H⟩ := H
     replace H : (waterhourlaw04_RefillWithout.j0 k l0 l1 a2 l3 (!t444)) = some r := H
     have A13 := a_ A130
     clear A130
     have H' := a_ H
     clear H
     go_wp2_with (first | ((with_reducible refine gate_callee (f := 31) rfl ?_); refine goesL_ (some 22) rfl rfl Tryd.func31 (by kernel_rfl) rfl #[.slice A0 l0.length c0] rfl tm_ ?_; (with_reducible refine (waterhourref04_Valid.calls k _ _ l0 true _ ?side1 ?side2 A9.out).mono ?_); (case side1 => exact cl_ (Kd.C_below HR0.out HB.out)); (case side2 => exact HC0.out); rintro e w14 ⟨rfl, hb⟩; refine ⟨_, rfl, ?_⟩; have n0_ := a_ (Kd.V_below (vl_ HO3.out) hb); have n1_ := a_ (below_step bl_ hb); clear HO3; clear HB; have HO3 := n0_; have HB := n1_; clear n0_ n1_; (try clear hb); (try clear hb2); (try clear hk); (try clear hi)) | (go_at_call 31; (with_reducible refine (waterhourref04_Valid.calls k _ _ l1 true _ ?side1 ?side2 A11.out).mono ?_); (case side1 => exact cl_ (Kd.C_below HR1.out HB.out)); (case side2 => exact HC1.out); rintro e w15 ⟨rfl, hb⟩; have n0_ := a_ (Kd.V_below (vl_ HO3.out) hb); have n1_ := a_ (below_step bl_ hb); clear HO3; clear HB; have HO3 := n0_; have HB := n1_; clear n0_ n1_; (try clear hb); (try clear hb2); (try clear hk); (try clear hi)) | ((with_reducible refine gate_dst (N := 32) rfl ?_); (try (refine gate_guard (by rfl) ?_; dsimp only)); refine Kd.N_lit (Kd.slice 3 (Kd.int .i64)) _ 26 ?hg (N' := 32) ?hd (xs := ([l3] : List (List Int))) (inner := [.slice A3 l3.length c3]) (ok := (fun k_ => (P3_ k_ ∨ w.heap.size ≤ k_))) (okp := (fun k_ => (P3_ k_ ∨ w.heap.size ≤ k_))) ?hr ?hp (fun _ hk => hk) ((show ∀ k_, w15.heap.size ≤ k_ → (fun k_ => (P3_ k_ ∨ w.heap.size ≤ k_)) k_ from fun k_ hk => (.inr (Nat.le_trans (below_size bl_) hk))) _ (Nat.le_refl _)) (Below.refl _ _) (Nat.le_refl _) (by simp) ?_; (case hd => rfl); (case hg => rfl); (case hr => first | (go_simp; done) | (go_simp; rfl)); (case hp => exact (Reps.one (show Kd.FK (Kd.slice 3 (Kd.int .i64)) _ _ l3 [.slice A3 l3.length c3] from (Kd.FK_slice_mk (Kd.V_reads' (Kd.V_mono (ok' := (fun k_ => (P3_ k_ ∨ w.heap.size ≤ k_))) (HO3.out) (fun k_ hk => hk))).2.1 (Kd.V_F (Kd.V_mono (ok' := (fun k_ => (P3_ k_ ∨ w.heap.size ≤ k_))) (HO3.out) (fun k_ hk => hk))))) (Reps.none _ _))); intro v442 w16 ho17 hb hg_ hnew_; clear hg_ hnew_; (first | rw [← Ny441.out] at ho17 | (simp only [Int.reduceToNat] at ho17; rw [← Ny441.out] at ho17)); have n0_ := a_ (Kd.V_elder' (vl_ HO3.out) (Kd.N_base ho17) hb); have n1_ := a_ (Kd.N_lower ho17 (below_size bl_)); have n2_ := a_ (below_step bl_ hb); clear HO3; clear HB; have HO3 := n0_; have HO443 := n1_; have HB := n2_; clear n0_ n1_ n2_; clear hb ho17; obtain ⟨Ao18, co18, eo18⟩ := Kd.N_slice HO443.out; subst eo18) | (go_at_call 19; (with_reducible refine (waterhourlaw04_few.calls k _ _ l0 _ _ y441 t444 _ ?side1 ?side2 ?side3 ?side4 A13.out).mono ?_); (case side1 => exact cl_ (Kd.C_below HR0.out HB.out)); (case side2 => exact HC0.out); (case side3 => exact cl_ ((Kd.N_reads' HO443.out).2.2)); (case side4 => exact (Kd.N_reads' HO443.out).2.1); rintro e w' ⟨rfl, ⟨nd, rfl⟩⟩))
     go_meet
     case rel => exact ⟨_, (!t444), (by first | rfl | (simp; done) | (simp [*]; done)), H', ⟨by first | omega | exact Nat.le_refl _⟩, ⟨vl_ (Kd.V_mono HO3.out (fun _ hk => hk.1))⟩, ⟨bl_⟩⟩
    ·replace c12 := Bool.eq_false_iff.mpr c12
     subst c12
     have H1 : (waterhourlaw04_RefillWithout.j0 k l0 l1 a2 l3 true) = some r := by rw [if_neg (show ¬ (false = true) by decide)] at H; exact H
     clear H
     have H := H1
     clear H1
     have H' := a_ H
     clear H
     go_wp2_with (first | ((with_reducible refine gate_callee (f := 31) rfl ?_); refine goesL_ (some 22) rfl rfl Tryd.func31 (by kernel_rfl) rfl #[.slice A0 l0.length c0] rfl tm_ ?_; (with_reducible refine (waterhourref04_Valid.calls k _ _ l0 true _ ?side1 ?side2 A9.out).mono ?_); (case side1 => exact cl_ (Kd.C_below HR0.out HB.out)); (case side2 => exact HC0.out); rintro e w19 ⟨rfl, hb⟩; refine ⟨_, rfl, ?_⟩; have n0_ := a_ (Kd.V_below (vl_ HO3.out) hb); have n1_ := a_ (below_step bl_ hb); clear HO3; clear HB; have HO3 := n0_; have HB := n1_; clear n0_ n1_; (try clear hb); (try clear hb2); (try clear hk); (try clear hi)) | (go_at_call 31; (with_reducible refine (waterhourref04_Valid.calls k _ _ l1 false _ ?side1 ?side2 A11.out).mono ?_); (case side1 => exact cl_ (Kd.C_below HR1.out HB.out)); (case side2 => exact HC1.out); rintro e w20 ⟨rfl, hb⟩; have n0_ := a_ (Kd.V_below (vl_ HO3.out) hb); have n1_ := a_ (below_step bl_ hb); clear HO3; clear HB; have HO3 := n0_; have HB := n1_; clear n0_ n1_; (try clear hb); (try clear hb2); (try clear hk); (try clear hi)))
     go_meet
     case rel => exact ⟨_, (true), (by first | rfl | (simp; done) | (simp [*]; done)), H', ⟨by first | omega | exact Nat.le_refl _⟩, ⟨vl_ HO3.out⟩, ⟨bl_⟩⟩
   ·replace c10 := Bool.eq_false_iff.mpr c10
    subst c10
    have H1 : (waterhourlaw04_RefillWithout.j0 k l0 l1 a2 l3 true) = some r := by rw [if_neg (show ¬ (false = true) by decide)] at H; exact H
    clear H
    have H := H1
    clear H1
    have H' := a_ H
    clear H
    go_wp2_with (first | ((with_reducible refine gate_callee (f := 31) rfl ?_); refine goesL_ (some 22) rfl rfl Tryd.func31 (by kernel_rfl) rfl #[.slice A0 l0.length c0] rfl tm_ ?_; (with_reducible refine (waterhourref04_Valid.calls k _ _ l0 false _ ?side1 ?side2 A9.out).mono ?_); (case side1 => exact cl_ (Kd.C_below HR0.out HB.out)); (case side2 => exact HC0.out); rintro e w21 ⟨rfl, hb⟩; refine ⟨_, rfl, ?_⟩; have n0_ := a_ (Kd.V_below (vl_ HO3.out) hb); have n1_ := a_ (below_step bl_ hb); clear HO3; clear HB; have HO3 := n0_; have HB := n1_; clear n0_ n1_; (try clear hb); (try clear hb2); (try clear hk); (try clear hi)))
    go_meet
    case rel => exact ⟨_, (true), (by first | rfl | (simp; done) | (simp [*]; done)), H', ⟨by first | omega | exact Nat.le_refl _⟩, ⟨vl_ HO3.out⟩, ⟨bl_⟩⟩
  case rest =>
   clear HC7
   try clear c1
   try clear p2
   try clear c3
   try clear c6
   try clear c7
   try clear c10
   try clear c12
   try clear c18
   obtain ⟨kq, x35_6, rfl, HA, HJ6, HO_3, HB⟩ := hcut
   cases kq with
   | zero => exact absurd HA.out (by simp [waterhourlaw04_RefillWithout.j0])
   | succ kj6 =>
    have H := HA.out
    clear HA
    simp only [waterhourlaw04_RefillWithout.j0] at H
    by_cases c22 : x35_6 = true
    ·subst c22
     have H1 : (some true) = some r := by rw [if_pos rfl] at H; exact H
     clear H
     have H := H1
     clear H1
     obtain rfl := Option.some.inj H
     go_wp2
     go_ret
     exact ⟨by first | rfl | (simp [errW_none, errW_some] <;> rfl) | (simp [*, errW_none, errW_some] <;> rfl), bl_⟩
    ·replace c22 := Bool.eq_false_iff.mpr c22
     subst c22
     have H1 : ((refill_Without.f l0 a2).bind fun bt445 => (if bt445.2 = 0 then ((waterhourref04_Event.f l0 a2 0).bind fun t449 => (if t449 = true then ((waterhourref04_Valid.f kj6 bt445.1).bind fun t450 => (if t450 = true then (waterhourlaw04_RefillWithout.j1 kj6 l0 l1 a2 l3 bt445.1 ((bt445.1.length : Int) != (wrap64 ((l0.length : Int) - 1)))) else (waterhourlaw04_RefillWithout.j1 kj6 l0 l1 a2 l3 bt445.1 true))) else (waterhourlaw04_RefillWithout.j1 kj6 l0 l1 a2 l3 bt445.1 true))) else (waterhourlaw04_RefillWithout.j6 kj6 l0 l1 l3))) = some r := by rw [if_neg (show ¬ (false = true) by decide)] at H; exact H
     clear H
     have H := H1
     clear H1
     replace H := Option.bind_eq_some_iff.mp H
     obtain ⟨⟨t445, t446⟩, A230, H⟩ := H
     replace H : (if t446 = 0 then ((waterhourref04_Event.f l0 a2 0).bind fun t449 => (if t449 = true then ((waterhourref04_Valid.f kj6 t445).bind fun t450 => (if t450 = true then (waterhourlaw04_RefillWithout.j1 kj6 l0 l1 a2 l3 t445 ((t445.length : Int) != (wrap64 ((l0.length : Int) - 1)))) else (waterhourlaw04_RefillWithout.j1 kj6 l0 l1 a2 l3 t445 true))) else (waterhourlaw04_RefillWithout.j1 kj6 l0 l1 a2 l3 t445 true))) else (waterhourlaw04_RefillWithout.j6 kj6 l0 l1 l3)) = some r := H
     have A23 := a_ A230
     clear A230
     have HC24 := a_ H
     clear H
     go_upto_if 43 with (first | ((with_reducible refine gate_callee (f := 35) rfl ?_); refine goesL_ (some 39) rfl rfl Tryd.func35 (by kernel_rfl) rfl #[.slice A0 l0.length c0, .int .i64 a2] rfl tm_ ?_; (with_reducible refine (refill_Without.calls _ _ l0 a2 t445 t446 _ ?side1 ?side2 A23.out).mono ?_); (case side1 => exact cl_ (Kd.C_below HR0.out HB.out)); (case side2 => exact HC0.out); rintro e w25 ⟨v447, rfl, ho0, hb⟩; refine ⟨_, rfl, ?_⟩; have n0_ := a_ (Kd.V_elder' (vl_ HO_3.out) (Kd.R_base ho0) hb); have n1_ := a_ (Kd.R_lower (Kd.R_newM (M := fun k_ => (w.heap.size ≤ k_)) ho0 (below_size bl_) (fun k_ h_ => h_)) (below_size bl_)); have n2_ := a_ (below_step bl_ hb); clear HO_3; clear HB; have HO_3 := n0_; have HO448 := n1_; have HB := n2_; clear n0_ n1_ n2_; (try clear hb); (try clear hb2); (try clear hk); (try clear hi); (try clear ho0)))
     (try simp only [Act.put, List.setIfInBounds_toArray, List.set_cons_zero, List.set_cons_succ])
     go_cut [] (fun wc => ∃ (kq : Nat), Aside0 (waterhourlaw04_RefillWithout.j6 kq l0 l1 l3 = some r) ∧ Aside0 (kq ≤ kj6) ∧ Aside0 (Kd.V (Kd.int .i64) 3 wc w.heap.size (fun k_ => (P3_ k_ ∨ w.heap.size ≤ k_)) (.slice A3 l3.length c3) l3) ∧ Aside0 (Below w.heap.size w wc))
     case first => as_aux_lemma =>
      have H := HC24.out
      clear HC24
      by_cases c26 : t446 = 0
      ·rw [if_pos c26] at H
       have c26b0 : (t446 == 0) = true := beq_iff_eq.mpr c26
       have c26b1 : (t446 != 0) = false := bne_eq_false_iff_eq.mpr c26
       clear c26
       (first | rw [c26b0] | (simp only [i64_w, i32_w]; rw [c26b0]) | skip)
       have HC27 := a_ H
       clear H
       go_upto_region 7 with (fail)
       go_cut [60] (fun v60 wc => ∃ (kq : Nat) (x60_26 : Bool), v60 = .bool x60_26 ∧ Aside0 (waterhourlaw04_RefillWithout.j1 kq l0 l1 a2 l3 t445 x60_26 = some r) ∧ Aside0 (kq ≤ kj6) ∧ Aside0 (Kd.V (Kd.int .i64) 3 wc w.heap.size (fun k_ => (P3_ k_ ∨ w.heap.size ≤ k_) ∧ some k_ ≠ (v447 : Value).ownBlock) (.slice A3 l3.length c3) l3) ∧ Aside0 (Kd.R k51 51 wc w.heap.size (fun k_ => (w.heap.size ≤ k_)) v447 t445) ∧ Aside0 (Below w.heap.size w wc))
       case first => as_aux_lemma =>
        have H := HC27.out
        clear HC27
        replace H := Option.bind_eq_some_iff.mp H
        obtain ⟨t449, A280, H⟩ := H
        replace H : (if t449 = true then ((waterhourref04_Valid.f kj6 t445).bind fun t450 => (if t450 = true then (waterhourlaw04_RefillWithout.j1 kj6 l0 l1 a2 l3 t445 ((t445.length : Int) != (wrap64 ((l0.length : Int) - 1)))) else (waterhourlaw04_RefillWithout.j1 kj6 l0 l1 a2 l3 t445 true))) else (waterhourlaw04_RefillWithout.j1 kj6 l0 l1 a2 l3 t445 true)) = some r := H
        have A28 := a_ A280
        clear A280
        by_cases c29 : t449 = true
        ·subst c29
         have H1 : ((waterhourref04_Valid.f kj6 t445).bind fun t450 => (if t450 = true then (waterhourlaw04_RefillWithout.j1 kj6 l0 l1 a2 l3 t445 ((t445.length : Int) != (wrap64 ((l0.length : Int) - 1)))) else (waterhourlaw04_RefillWithout.j1 kj6 l0 l1 a2 l3 t445 true))) = some r := by rw [if_pos rfl] at H; exact H
         clear H
         have H := H1
         clear H1
         replace H := Option.bind_eq_some_iff.mp H
         obtain ⟨t450, A300, H⟩ := H
         replace H : (if t450 = true then (waterhourlaw04_RefillWithout.j1 kj6 l0 l1 a2 l3 t445 ((t445.length : Int) != (wrap64 ((l0.length : Int) - 1)))) else (waterhourlaw04_RefillWithout.j1 kj6 l0 l1 a2 l3 t445 true)) = some r := H
         have A30 := a_ A300
         clear A300
         by_cases c31 : t450 = true
         ·subst c31
          have H1 : (waterhourlaw04_RefillWithout.j1 kj6 l0 l1 a2 l3 t445 ((t445.length : Int) != (wrap64 ((l0.length : Int) - 1)))) = some r := by rw [if_pos rfl] at H; exact H
          clear H
          have H := H1
          clear H1
          have H' := a_ H
          clear H
          go_wp2_with (first | ((with_reducible refine gate_callee (f := 36) rfl ?_); refine goesL_ (some 46) rfl rfl Tryd.func36 (by kernel_rfl) rfl #[.slice A0 l0.length c0, .int .i64 a2, .int .i64 0] rfl tm_ ?_; (with_reducible refine (waterhourref04_Event.calls _ _ l0 a2 0 true _ ?side1 ?side2 A28.out).mono ?_); (case side1 => exact cl_ (Kd.C_below HR0.out HB.out)); (case side2 => exact HC0.out); rintro e w' ⟨rfl, ⟨nd, rfl⟩⟩; refine ⟨_, rfl, ?_⟩; obtain ⟨Ao32, co32, eo32⟩ := Kd.R_slice HO448.out; subst eo32) | (go_at_call 31; (with_reducible refine (waterhourref04_Valid.calls kj6 _ _ t445 true _ ?side1 ?side2 A30.out).mono ?_); (case side1 => exact cl_ ((Kd.R_reads' HO448.out).2.2)); (case side2 => exact (Kd.R_reads' HO448.out).2.1); rintro e w33 ⟨rfl, hb⟩; have n0_ := a_ (Kd.V_below (vl_ HO_3.out) hb); have n1_ := a_ (Kd.R_below (rl_ HO448.out) hb); have n2_ := a_ (below_step bl_ hb); clear HO_3; clear HO448; clear HB; have HO_3 := n0_; have HO448 := n1_; have HB := n2_; clear n0_ n1_ n2_; (try clear hb); (try clear hb2); (try clear hk); (try clear hi)))
          go_meet
          case rel => exact ⟨_, (((t445.length : Int) != (wrap64 ((l0.length : Int) - 1)))), (by first | rfl | (simp; done) | (simp [*]; done)), H', ⟨by have := HJ6.out; first | omega | exact Nat.le_refl _⟩, ⟨vl_ HO_3.out⟩, ⟨rl_ (Kd.R_mono HO448.out (fun _ hk => hk.1))⟩, ⟨bl_⟩⟩
         ·replace c31 := Bool.eq_false_iff.mpr c31
          subst c31
          have H1 : (waterhourlaw04_RefillWithout.j1 kj6 l0 l1 a2 l3 t445 true) = some r := by rw [if_neg (show ¬ (false = true) by decide)] at H; exact H
          clear H
          have H := H1
          clear H1
          have H' := a_ H
          clear H
          go_wp2_with (first | ((with_reducible refine gate_callee (f := 36) rfl ?_); refine goesL_ (some 46) rfl rfl Tryd.func36 (by kernel_rfl) rfl #[.slice A0 l0.length c0, .int .i64 a2, .int .i64 0] rfl tm_ ?_; (with_reducible refine (waterhourref04_Event.calls _ _ l0 a2 0 true _ ?side1 ?side2 A28.out).mono ?_); (case side1 => exact cl_ (Kd.C_below HR0.out HB.out)); (case side2 => exact HC0.out); rintro e w' ⟨rfl, ⟨nd, rfl⟩⟩; refine ⟨_, rfl, ?_⟩; obtain ⟨Ao34, co34, eo34⟩ := Kd.R_slice HO448.out; subst eo34) | (go_at_call 31; (with_reducible refine (waterhourref04_Valid.calls kj6 _ _ t445 false _ ?side1 ?side2 A30.out).mono ?_); (case side1 => exact cl_ ((Kd.R_reads' HO448.out).2.2)); (case side2 => exact (Kd.R_reads' HO448.out).2.1); rintro e w35 ⟨rfl, hb⟩; have n0_ := a_ (Kd.V_below (vl_ HO_3.out) hb); have n1_ := a_ (Kd.R_below (rl_ HO448.out) hb); have n2_ := a_ (below_step bl_ hb); clear HO_3; clear HO448; clear HB; have HO_3 := n0_; have HO448 := n1_; have HB := n2_; clear n0_ n1_ n2_; (try clear hb); (try clear hb2); (try clear hk); (try clear hi)))
          go_meet
          case rel => exact ⟨_, (true), (by first | rfl | (simp; done) | (simp [*]; done)), H', ⟨by have := HJ6.out; first | omega | exact Nat.le_refl _⟩, ⟨vl_ HO_3.out⟩, ⟨rl_ (Kd.R_mono HO448.out (fun _ hk => hk.1))⟩, ⟨bl_⟩⟩
        ·replace c29 := Bool.eq_false_iff.mpr c29
         subst c29
         have H1 : (waterhourlaw04_RefillWithout.j1 kj6 l0 l1 a2 l3 t445 true) = some r := by rw [if_neg (show ¬ (false = true) by decide)] at H; exact H
         clear H
         have H := H1
         clear H1
         have H' := a_ H
         clear H
         go_wp2_with (first | ((with_reducible refine gate_callee (f := 36) rfl ?_); refine goesL_ (some 46) rfl rfl Tryd.func36 (by kernel_rfl) rfl #[.slice A0 l0.length c0, .int .i64 a2, .int .i64 0] rfl tm_ ?_; (with_reducible refine (waterhourref04_Event.calls _ _ l0 a2 0 false _ ?side1 ?side2 A28.out).mono ?_); (case side1 => exact cl_ (Kd.C_below HR0.out HB.out)); (case side2 => exact HC0.out); rintro e w' ⟨rfl, ⟨nd, rfl⟩⟩; refine ⟨_, rfl, ?_⟩))
         go_meet
         case rel => exact ⟨_, (true), (by first | rfl | (simp; done) | (simp [*]; done)), H', ⟨by have := HJ6.out; first | omega | exact Nat.le_refl _⟩, ⟨vl_ HO_3.out⟩, ⟨rl_ (Kd.R_mono HO448.out (fun _ hk => hk.1))⟩, ⟨bl_⟩⟩
       case rest =>
        clear HC27
        try clear c1
        try clear c2
        try clear p2
        try clear c3
        try clear c6
        try clear p6
        try clear c7
        try clear c10
        try clear c12
        try clear c18
        try clear c22
        try clear c26
        try clear c26b0
        try clear c26b1
        try clear c29
        try clear c31
        try clear c35
        try clear p2
        obtain ⟨kq, x60_26, rfl, HA, HJ26, HO_3, HO_9, HB⟩ := hcut
        cases kq with
        | zero => exact absurd HA.out (by simp [waterhourlaw04_RefillWithout.j1])
        | succ kj26 =>
         have H := HA.out
         clear HA
         simp only [waterhourlaw04_RefillWithout.j1] at H
         by_cases c36 : x60_26 = true
         ·subst c36
          have H1 : (some false) = some r := by rw [if_pos rfl] at H; exact H
          clear H
          have H := H1
          clear H1
          exact absurd (H.trans (congrArg some hrt.out)) (by simp)
         ·replace c36 := Bool.eq_false_iff.mpr c36
          subst c36
          have H1 : ((refill_CheckTimes.f l0 l3).bind fun t451 => (if t451 = 0 then (if 0 ≤ a2 then (if a2 ≤ (l3.length : Int) then (if 0 ≤ (wrap64 (a2 + 1)) then (if (wrap64 (a2 + 1)) ≤ (l3.length : Int) then ((slices_Concat_int_int.f kj26 (([(l3.take (a2 : Int).toNat), (l3.drop ((wrap64 (a2 + 1)) : Int).toNat)] : List (List Int)))).bind fun t465 => ((refill_CheckTimes.f t445 t465).bind fun t468 => (waterhourlaw04_RefillWithout.j2 kj26 l0 l1 a2 l3 t445 (t468 != 0)))) else (none)) else (none)) else (none)) else (none)) else (waterhourlaw04_RefillWithout.j2 kj26 l0 l1 a2 l3 t445 false))) = some r := by rw [if_neg (show ¬ (false = true) by decide)] at H; exact H
          clear H
          have H := H1
          clear H1
          have HC37 := a_ H
          clear H
          go_upto_region 9 with (fail)
          go_cut [79] (fun v79 wc => ∃ (kq : Nat) (x79_36 : Bool), v79 = .bool x79_36 ∧ Aside0 (waterhourlaw04_RefillWithout.j2 kq l0 l1 a2 l3 t445 x79_36 = some r) ∧ Aside0 (kq ≤ kj26) ∧ Aside0 (Kd.V (Kd.int .i64) 3 wc w.heap.size (fun k_ => (P3_ k_ ∨ w.heap.size ≤ k_) ∧ some k_ ≠ (v447 : Value).ownBlock) (.slice A3 l3.length c3) l3) ∧ Aside0 (Kd.R k51 51 wc w.heap.size (fun k_ => (w.heap.size ≤ k_)) v447 t445) ∧ Aside0 (Below w.heap.size w wc))
          case first => as_aux_lemma =>
           have H := HC37.out
           clear HC37
           replace H := Option.bind_eq_some_iff.mp H
           obtain ⟨t451, A380, H⟩ := H
           replace H : (if t451 = 0 then (if 0 ≤ a2 then (if a2 ≤ (l3.length : Int) then (if 0 ≤ (wrap64 (a2 + 1)) then (if (wrap64 (a2 + 1)) ≤ (l3.length : Int) then ((slices_Concat_int_int.f kj26 (([(l3.take (a2 : Int).toNat), (l3.drop ((wrap64 (a2 + 1)) : Int).toNat)] : List (List Int)))).bind fun t465 => ((refill_CheckTimes.f t445 t465).bind fun t468 => (waterhourlaw04_RefillWithout.j2 kj26 l0 l1 a2 l3 t445 (t468 != 0)))) else (none)) else (none)) else (none)) else (none)) else (waterhourlaw04_RefillWithout.j2 kj26 l0 l1 a2 l3 t445 false)) = some r := H
           have A38 := a_ A380
           clear A380
           by_cases c39 : t451 = 0
           ·rw [if_pos c39] at H
            have c39b0 : (t451 == 0) = true := beq_iff_eq.mpr c39
            have c39b1 : (t451 != 0) = false := bne_eq_false_iff_eq.mpr c39
            clear c39
            (first | rw [c39b0] | (simp only [i64_w, i32_w]; rw [c39b0]) | skip)
            by_cases c40 : 0 ≤ a2
            ·rw [if_pos c40] at H
             have c40b0 := eq_true c40
             have c40b1 : decide (0 ≤ a2) = true := decide_eq_true c40
             clear c40
             by_cases c41 : a2 ≤ (l3.length : Int)
             ·rw [if_pos c41] at H
              have c41b0 := eq_true c41
              have c41b1 : decide (a2 ≤ (l3.length : Int)) = true := decide_eq_true c41
              clear c41
              obtain ⟨y452, hy452⟩ : ∃ y_ : List Int, y_ = (l3.take (a2 : Int).toNat) := ⟨_, rfl⟩
              replace H : (if 0 ≤ (wrap64 (a2 + 1)) then (if (wrap64 (a2 + 1)) ≤ (l3.length : Int) then ((slices_Concat_int_int.f kj26 (([y452, (l3.drop ((wrap64 (a2 + 1)) : Int).toNat)] : List (List Int)))).bind fun t465 => ((refill_CheckTimes.f t445 t465).bind fun t468 => (waterhourlaw04_RefillWithout.j2 kj26 l0 l1 a2 l3 t445 (t468 != 0)))) else (none)) else (none)) = some r := by first | (rw [hy452]; with_reducible exact H) | (have H2_ := (Option.bind_some _ _).symm.trans H; rw [hy452]; with_reducible exact H2_) | (have H2_ := (Option.bind_some _ _).symm.trans H; with_reducible exact H2_) | with_reducible exact H | (rw [hy452]; exact H) | exact H
              have Ny452 := a_ hy452
              clear hy452
              obtain ⟨ji42, hji42⟩ : ∃ j_ : Int, (wrap64 (a2 + 1)) = j_ := ⟨_, rfl⟩
              replace H : (if 0 ≤ (ji42) then (if (ji42) ≤ (l3.length : Int) then ((slices_Concat_int_int.f kj26 (([y452, (l3.drop ((ji42) : Int).toNat)] : List (List Int)))).bind fun t465 => ((refill_CheckTimes.f t445 t465).bind fun t468 => (waterhourlaw04_RefillWithout.j2 kj26 l0 l1 a2 l3 t445 (t468 != 0)))) else (none)) else (none)) = some r := by first | (rw [hji42] at H; exact H) | (simp only [hji42] at H ⊢; exact H)
              (try rw [hji42] at A38)
              have hji42w : (IntKind.i64.wrap (a2 + 1)) = ji42 := (i64_w _).trans hji42
              by_cases c43 : 0 ≤ (ji42)
              ·rw [if_pos c43] at H
               have c43b0 := eq_true c43
               have c43b1 : decide (0 ≤ (ji42)) = true := decide_eq_true c43
               clear c43
               by_cases c44 : (ji42) ≤ (l3.length : Int)
               ·rw [if_pos c44] at H
                have c44b0 := eq_true c44
                have c44b1 : decide ((ji42) ≤ (l3.length : Int)) = true := decide_eq_true c44
                clear c44
                obtain ⟨y457, hy457⟩ : ∃ y_ : List Int, y_ = (l3.drop ((ji42) : Int).toNat) := ⟨_, rfl⟩
                replace H : ((slices_Concat_int_int.f kj26 (([y452, y457] : List (List Int)))).bind fun t465 => ((refill_CheckTimes.f t445 t465).bind fun t468 => (waterhourlaw04_RefillWithout.j2 kj26 l0 l1 a2 l3 t445 (t468 != 0)))) = some r := by first | (rw [hy457]; with_reducible exact H) | (have H2_ := (Option.bind_some _ _).symm.trans H; rw [hy457]; with_reducible exact H2_) | (have H2_ := (Option.bind_some _ _).symm.trans H; with_reducible exact H2_) | with_reducible exact H | (rw [hy457]; exact H) | exact H
                have Ny457 := a_ hy457
                clear hy457
                obtain ⟨y462, hy462⟩ : ∃ y_ : List (List Int), y_ = (([y452, y457] : List (List Int))) := ⟨_, rfl⟩
                replace H : ((slices_Concat_int_int.f kj26 y462).bind fun t465 => ((refill_CheckTimes.f t445 t465).bind fun t468 => (waterhourlaw04_RefillWithout.j2 kj26 l0 l1 a2 l3 t445 (t468 != 0)))) = some r := by first | (rw [hy462]; with_reducible exact H) | (have H2_ := (Option.bind_some _ _).symm.trans H; rw [hy462]; with_reducible exact H2_) | (have H2_ := (Option.bind_some _ _).symm.trans H; with_reducible exact H2_) | with_reducible exact H | (rw [hy462]; exact H) | exact H
                have Ny462 := a_ hy462
                clear hy462
                replace H := Option.bind_eq_some_iff.mp H
                obtain ⟨t465, A450, H⟩ := H
                replace H : ((refill_CheckTimes.f t445 t465).bind fun t468 => (waterhourlaw04_RefillWithout.j2 kj26 l0 l1 a2 l3 t445 (t468 != 0))) = some r := H
                have A45 := a_ A450
                clear A450
                replace H := Option.bind_eq_some_iff.mp H
                obtain ⟨t468, A460, H⟩ := H
                replace H : (waterhourlaw04_RefillWithout.j2 kj26 l0 l1 a2 l3 t445 (t468 != 0)) = some r := H
                have A46 := a_ A460
                clear A460
                have H' := a_ H
                clear H
                try go_wp2
                have n0_ := a_ (Kd.V_drew HO_3.out)
                have n1_ := a_ (Kd.R_drew HO_9.out)
                have n2_ := a_ (below_drew1 HB.out)
                clear HO_3
                clear HO_9
                clear HB
                have HO_3 := n0_
                have HO_9 := n1_
                have HB := n2_
                clear n0_ n1_ n2_
                refine start_ (n := 19) (S := fun w' => True) (ds := []) #[false, false, false, false, false, false, false, false, false, false, false, false, false, false, false, false, false, false, false] (by kernel_rfl) rfl rfl trivial (fun hHeld => ?_); refine with_tabW waterhourlaw04_RefillWithout.tab9 waterhourlaw04_RefillWithout.bits9 (fun HT_ HW_ => ?_)
                generalize wc.drew = w47 at HO_3 HO_9 HB hHeld ⊢
                refine pz_ 0 61 HT_ ?_
                refine pz_ 1 62 HT_ ?_
                refine one_ (i := 2) (N := some 63) #[true, true, true, false, false, false, false, false, false, false, false, false, false, false, false, false, false, false, false] rfl rfl (one_of HT_.out (by kernel_rfl)) (by decide) (fun K hK => ?_)
                refine goes_ Tryd.func33 (by kernel_rfl) rfl #[.slice A0 l0.length c0, .slice A3 l3.length c3] (by rfl) rfl rfl tm_ ?_
                with_reducible refine (refill_CheckTimes.calls _ _ l0 _ _ l3 t451 _ ?side1 ?side2 ?side3 ?side4 A38.out).mono ?_
                (case side1 => exact cl_ (Kd.C_below HR0.out HB.out))
                (case side2 => exact HC0.out)
                (case side3 => exact cl_ ((Kd.V_reads' HO_3.out).2.2))
                (case side4 => exact (Kd.V_reads' HO_3.out).2.1)
                rintro e w48 ⟨rfl, hb⟩
                refine ⟨_, rfl, ?_⟩
                have n0_ := a_ (Kd.V_below (vl_ HO_3.out) hb)
                have n1_ := a_ (Kd.R_below (rl_ HO_9.out) hb)
                have n2_ := a_ (below_step bl_ hb)
                clear HO_3
                clear HO_9
                clear HB
                have HO_3 := n0_
                have HO_9 := n1_
                have HB := n2_
                clear n0_ n1_ n2_
                (try clear hb)
                (try clear hb2)
                (try clear hk)
                (try clear hi)
                have q49 : (a2 : Int) ≤ ((l3.length : Int) : Int) := of_decide_eq_true (by first | (with_reducible assumption) | assumption)
                obtain ⟨i049, hi049, _, hsz49, _⟩ := info_parts info3
                have hroom49 : l3.length ≤ c3 := (Kd.V_reads' HO_3.out).2.1
                have hC49 : Kd.F (Kd.int .i64) _ _ A3 l3.length l3 := (Kd.V_at (base := w.heap.size) HO_3.out).2.2
                have hcut49 := cutMax.to (P := Tryd.prog) 26 3 .i64 Tryd.underlying26 hi049 A3 l3.length c3 a2 (of_decide_eq_true (by first | (with_reducible assumption) | assumption)) q49 hroom49
                have hr49 := Kd.F_take (m := (a2 : Int).toNat) hC49 (by omega)
                have hy49 : y452.length = (a2 : Int).toNat := (by rw [Ny452.out, List.length_take]; omega)
                rw [← Ny452.out] at hr49
                rw [← hy49] at hcut49
                have HO456 := a_ (show Kd.V (Kd.int .i64) 3 _ w.heap.size _ (.slice A3 y452.length y452.length) y452 from Kd.V_mk (by omega) hr49)
                have HC456 := a_ (show y452.length ≤ y452.length from by omega)
                clear hr49 hC49 hroom49 hi049 hsz49
                have KY49 := a_ hy49
                clear hy49
                replace q49 := eq_true q49
                have q50 : ((ji42) : Int) ≤ ((l3.length : Int) : Int) := of_decide_eq_true (by first | (with_reducible assumption) | assumption)
                obtain ⟨i050, hi050, _, hsz50, _⟩ := info_parts info3
                have hroom50 : l3.length ≤ c3 := (Kd.V_reads' HO_3.out).2.1
                have hC50 : Kd.F (Kd.int .i64) _ _ A3 l3.length l3 := (Kd.V_at (base := w.heap.size) HO_3.out).2.2
                have q050 : (0 : Int) ≤ ((ji42) : Int) := of_decide_eq_true (by first | (with_reducible assumption) | assumption)
                have hcut50 := cut_from (P := Tryd.prog) 26 3 .i64 Tryd.underlying26 hi050 1 hsz50 A3 l3.length c3 (ji42) q050 q50
                have hr50 := Kd.F_cut (m := ((ji42) : Int).toNat) (c := c3) hC50 (by omega) hroom50
                obtain ⟨A50, hA50⟩ : ∃ A1, A1 = (if c3 = ((ji42) : Int).toNat then A3 else (A3 : Option Addr).map (·.add (((ji42) : Int).toNat * 1))) := ⟨_, rfl⟩
                obtain ⟨c50, hc50⟩ : ∃ c1, c1 = c3 - ((ji42) : Int).toNat := ⟨_, rfl⟩
                have hy50 : y457.length = l3.length - ((ji42) : Int).toNat := (by rw [Ny457.out, List.length_drop] <;> omega)
                rw [show (l3).drop ((ji42) : Int).toNat = y457 from Ny457.out.symm] at hr50
                replace hr50 : Kd.F (Kd.int .i64) _ _ A50 y457.length y457 := (by rw [hA50]; exact hr50)
                rw [← hy50, ← hA50, ← hc50] at hcut50
                have HO461 := a_ (show Kd.V (Kd.int .i64) 3 _ w.heap.size _ (.slice A50 y457.length c50) y457 from Kd.V_mk (by rw [hy50, hc50]; exact Nat.sub_le_sub_right hroom50 _) hr50)
                have HC461 := a_ (show y457.length ≤ c50 from by rw [hy50, hc50]; exact Nat.sub_le_sub_right hroom50 _)
                clear hr50 hC50 hroom50 hi050 hsz50 hc50
                have KY50 := a_ hy50
                have KA50 := a_ hA50
                clear hy50 hA50
                replace q50 := eq_true q50
                refine hK.out _ _ trivial (fun hHeld => ?_)
                clear hK K
                refine norm_ (a' := ?_) ?_ ?_
                rotate_left
                ·show Act.put _ (some 63) _ = _
                 simp only [Act.put, List.setIfInBounds_toArray, List.set_cons_zero, List.set_cons_succ, i64_w, i32_w]
                 rfl
                refine pz_ 3 64 HT_ ?_
                refine pz_ 4 65 HT_ ?_
                refine pz_ 5 66 HT_ ?_
                refine pz_ 6 67 HT_ ?_
                refine pz_ 7 68 HT_ ?_
                refine pz_ 8 69 HT_ ?_
                refine pz_ 9 70 HT_ ?_
                refine pz_ 10 71 HT_ ?_
                refine pz_ 11 72 HT_ ?_
                refine pz_ 12 73 HT_ ?_
                refine pz_ 13 74 HT_ ?_
                refine one_ (i := 14) (N := some 75) #[true, true, true, true, true, true, true, true, true, true, true, true, true, true, true, false, false, false, false] rfl rfl (one_of HT_.out (by kernel_rfl)) (by decide) (fun K hK => ?_)
                refine Kd.N_lit_step (Kd.slice 3 (Kd.int .i64)) _ 26 ?hg (N' := 75) ?hd (xs := ([y452, y457] : List (List Int))) (inner := [.slice A3 y452.length y452.length, .slice A50 y457.length c50]) (ok := (fun k_ => (P3_ k_ ∨ w.heap.size ≤ k_) ∧ some k_ ≠ (v447 : Value).ownBlock)) (okp := (fun k_ => (P3_ k_ ∨ w.heap.size ≤ k_) ∧ some k_ ≠ (v447 : Value).ownBlock)) ?hr ?hp (fun _ hk => hk) ((show ∀ k_, w48.heap.size ≤ k_ → (fun k_ => (P3_ k_ ∨ w.heap.size ≤ k_) ∧ some k_ ≠ (v447 : Value).ownBlock) k_ from fun k_ hk => ⟨(.inr (Nat.le_trans (below_size bl_) hk)), Kd.fresh' (Kd.R_lt (rl_ HO_9.out)) k_ hk⟩) _ (Nat.le_refl _)) (Below.refl _ _) (Nat.le_refl _) (by simp) ?_; (case hd => rfl); (case hg => rfl); (case hr => first | (go_simp; done) | (go_simp; rfl)); (case hp => exact (Reps.one (show Kd.FK (Kd.slice 3 (Kd.int .i64)) _ _ y452 [.slice A3 y452.length y452.length] from (Kd.FK_slice_mk (Kd.V_reads' (Kd.V_mono (ok' := (fun k_ => (P3_ k_ ∨ w.heap.size ≤ k_) ∧ some k_ ≠ (v447 : Value).ownBlock)) (HO456.out) (fun k_ hk => ⟨hk.1, hk.2⟩))).2.1 (Kd.V_F (Kd.V_mono (ok' := (fun k_ => (P3_ k_ ∨ w.heap.size ≤ k_) ∧ some k_ ≠ (v447 : Value).ownBlock)) (HO456.out) (fun k_ hk => ⟨hk.1, hk.2⟩))))) (Reps.one (show Kd.FK (Kd.slice 3 (Kd.int .i64)) _ _ y457 [.slice A50 y457.length c50] from (Kd.FK_slice_mk (Kd.V_reads' (Kd.V_mono (ok' := (fun k_ => (P3_ k_ ∨ w.heap.size ≤ k_) ∧ some k_ ≠ (v447 : Value).ownBlock)) (HO461.out) (fun k_ hk => ⟨hk.1, hk.2⟩))).2.1 (Kd.V_F (Kd.V_mono (ok' := (fun k_ => (P3_ k_ ∨ w.heap.size ≤ k_) ∧ some k_ ≠ (v447 : Value).ownBlock)) (HO461.out) (fun k_ hk => ⟨hk.1, hk.2⟩))))) (Reps.none _ _))))
                intro v463 w51 ho52 hb hg_ hnew_
                clear hg_ hnew_
                (first | rw [← Ny462.out] at ho52 | (simp only [Int.reduceToNat] at ho52; rw [← Ny462.out] at ho52))
                have n0_ := a_ (Kd.V_elder' (vl_ HO_3.out) (Kd.N_base ho52) hb)
                have n1_ := a_ (Kd.R_below (rl_ HO_9.out) hb)
                have n2_ := a_ (Kd.V_elder' (vl_ HO456.out) (Kd.N_base ho52) hb)
                have n3_ := a_ (Kd.V_elder' (vl_ HO461.out) (Kd.N_base ho52) hb)
                have n4_ := a_ (Kd.N_lower ho52 (below_size bl_))
                have n5_ := a_ (below_step bl_ hb)
                clear HO_3
                clear HO_9
                clear HO456
                clear HO461
                clear HB
                have HO_3 := n0_
                have HO_9 := n1_
                have HO456 := n2_
                have HO461 := n3_
                have HO464 := n4_
                have HB := n5_
                clear n0_ n1_ n2_ n3_ n4_ n5_
                clear hb ho52
                obtain ⟨Ao53, co53, eo53⟩ := Kd.N_slice HO464.out
                (first | subst eo53 | (injection eo53 with f1_ f2_ f3_; have f4_ := f1_.symm; have f5_ := f3_.symm; clear f1_ f2_ f3_; subst f4_; subst f5_))
                refine hK.out _ _ trivial (fun hHeld => ?_)
                clear hK K
                refine norm_ (a' := ?_) ?_ ?_
                rotate_left
                ·show Act.put _ (some 75) _ = _
                 simp only [Act.put, List.setIfInBounds_toArray, List.set_cons_zero, List.set_cons_succ, i64_w, i32_w]
                 rfl
                refine one_ (i := 15) (N := some 76) #[true, true, true, true, true, true, true, true, true, true, true, true, true, true, true, true, false, false, false] rfl rfl (one_of HT_.out (by kernel_rfl)) (by decide) (fun K hK => ?_)
                refine goes_ Tryd.func37 (by kernel_rfl) rfl #[.slice Ao53 y462.length co53] (by rfl) rfl rfl tm_ ?_
                with_reducible refine (slices_Concat_int_int.calls kj26 _ _ y462 t465 _ ?side1 ?side2 A45.out).mono ?_
                (case side1 => exact cl_ ((Kd.N_reads' HO464.out).2.2))
                (case side2 => exact (Kd.N_reads' HO464.out).2.1)
                rintro e w54 ⟨v466, rfl, ho0, hb⟩
                refine ⟨_, rfl, ?_⟩
                have n0_ := a_ (Kd.V_elder' (vl_ HO_3.out) (Kd.R_base ho0) hb)
                have n1_ := a_ (Kd.R_below (rl_ HO_9.out) hb)
                have n2_ := a_ (Kd.V_elder' (vl_ HO456.out) (Kd.R_base ho0) hb)
                have n3_ := a_ (Kd.V_elder' (vl_ HO461.out) (Kd.R_base ho0) hb)
                have n4_ := a_ (Kd.N_elder' (by (with_reducible repeat (first | apply Kd.N_alloc | apply Kd.N_drewN | apply Kd.N_drew)); exact HO464.out) (Kd.R_base ho0) hb)
                have n5_ := a_ (Kd.R_lower (Kd.R_newM (M := fun k_ => (w.heap.size ≤ k_)) ho0 (below_size bl_) (fun k_ h_ => h_)) (below_size bl_))
                have n6_ := a_ (below_step bl_ hb)
                clear HO_3
                clear HO_9
                clear HO456
                clear HO461
                clear HO464
                clear HB
                have HO_3 := n0_
                have HO_9 := n1_
                have HO456 := n2_
                have HO461 := n3_
                have HO464 := n4_
                have HO467 := n5_
                have HB := n6_
                clear n0_ n1_ n2_ n3_ n4_ n5_ n6_
                (try clear hb)
                (try clear hb2)
                (try clear hk)
                (try clear hi)
                (try clear ho0)
                obtain ⟨Ao55, co55, eo55⟩ := Kd.R_slice HO_9.out
                (first | subst eo55 | (injection eo55 with f1_ f2_ f3_; have f4_ := f1_.symm; have f5_ := f3_.symm; clear f1_ f2_ f3_; subst f4_; subst f5_))
                obtain ⟨Ao56, co56, eo56⟩ := Kd.R_slice HO467.out
                (first | subst eo56 | (injection eo56 with f1_ f2_ f3_; have f4_ := f1_.symm; have f5_ := f3_.symm; clear f1_ f2_ f3_; subst f4_; subst f5_))
                refine hK.out _ _ trivial (fun hHeld => ?_)
                clear hK K
                refine norm_ (a' := ?_) ?_ ?_
                rotate_left
                ·show Act.put _ (some 76) _ = _
                 simp only [Act.put, List.setIfInBounds_toArray, List.set_cons_zero, List.set_cons_succ, i64_w, i32_w]
                 rfl
                refine one_ (i := 16) (N := some 77) #[true, true, true, true, true, true, true, true, true, true, true, true, true, true, true, true, true, false, false] rfl rfl (one_of HT_.out (by kernel_rfl)) (by decide) (fun K hK => ?_)
                refine goes_ Tryd.func33 (by kernel_rfl) rfl #[.slice Ao55 t445.length co55, .slice Ao56 t465.length co56] (by rfl) rfl rfl tm_ ?_
                with_reducible refine (refill_CheckTimes.calls _ _ t445 _ _ t465 t468 _ ?side1 ?side2 ?side3 ?side4 A46.out).mono ?_
                (case side1 => exact cl_ ((Kd.R_reads' HO_9.out).2.2))
                (case side2 => exact (Kd.R_reads' HO_9.out).2.1)
                (case side3 => exact cl_ ((Kd.R_reads' HO467.out).2.2))
                (case side4 => exact (Kd.R_reads' HO467.out).2.1)
                rintro e w57 ⟨rfl, hb⟩
                refine ⟨_, rfl, ?_⟩
                have n0_ := a_ (Kd.V_below (vl_ HO_3.out) hb)
                have n1_ := a_ (Kd.R_below (rl_ HO_9.out) hb)
                have n2_ := a_ (Kd.V_below (vl_ HO456.out) hb)
                have n3_ := a_ (Kd.V_below (vl_ HO461.out) hb)
                have n4_ := a_ (Kd.N_below (by (with_reducible repeat (first | apply Kd.N_alloc | apply Kd.N_drewN | apply Kd.N_drew)); exact HO464.out) hb)
                have n5_ := a_ (Kd.R_below (rl_ HO467.out) hb)
                have n6_ := a_ (below_step bl_ hb)
                clear HO_3
                clear HO_9
                clear HO456
                clear HO461
                clear HO464
                clear HO467
                clear HB
                have HO_3 := n0_
                have HO_9 := n1_
                have HO456 := n2_
                have HO461 := n3_
                have HO464 := n4_
                have HO467 := n5_
                have HB := n6_
                clear n0_ n1_ n2_ n3_ n4_ n5_ n6_
                (try clear hb)
                (try clear hb2)
                (try clear hk)
                (try clear hi)
                refine hK.out _ _ trivial (fun hHeld => ?_)
                clear hK K
                refine norm_ (a' := ?_) ?_ ?_
                rotate_left
                ·show Act.put _ (some 77) _ = _
                 simp only [Act.put, List.setIfInBounds_toArray, List.set_cons_zero, List.set_cons_succ, i64_w, i32_w]
                 rfl
                refine pz_ 17 78 HT_ ?_
                refine pz_ 18 79 HT_ ?_
                refine done_ (done_of HT_.out (by kernel_rfl)) ?_
                try go_wp2
                go_meet
                case rel => exact ⟨_, ((t468 != 0)), (by first | rfl | (simp; done) | (simp [*]; done)), H', ⟨by have := HJ6.out; have := HJ26.out; first | omega | exact Nat.le_refl _⟩, ⟨by (with_reducible repeat (first | apply Kd.V_alloc | apply Kd.V_drewN | apply Kd.V_drew)); exact Kd.V_mono HO_3.out (fun _ hk => ⟨hk.1.1.1, hk.1.1.2⟩)⟩, ⟨rl_ HO_9.out⟩, ⟨bl_⟩⟩
               ·rw [if_neg c44] at H
                exact absurd H (by simp)
              ·rw [if_neg c43] at H
               exact absurd H (by simp)
             ·rw [if_neg c41] at H
              exact absurd H (by simp)
            ·rw [if_neg c40] at H
             exact absurd H (by simp)
           ·rw [if_neg c39] at H
            have c39b0 : (t451 == 0) = false := beq_eq_false_iff_ne.mpr c39
            have c39b1 : (t451 != 0) = true := bne_iff_ne.mpr c39
            (first | rw [c39b0] | (simp only [i64_w, i32_w]; rw [c39b0]) | skip)
            have H' := a_ H
            clear H
            try go_wp2
            have n0_ := a_ (Kd.V_drew HO_3.out)
            have n1_ := a_ (Kd.R_drew HO_9.out)
            have n2_ := a_ (below_drew1 HB.out)
            clear HO_3
            clear HO_9
            clear HB
            have HO_3 := n0_
            have HO_9 := n1_
            have HB := n2_
            clear n0_ n1_ n2_
            refine start_ (n := 19) (S := fun w' => True) (ds := []) #[false, false, false, false, false, false, false, false, false, false, false, false, false, false, false, false, false, false, false] (by kernel_rfl) rfl rfl trivial (fun hHeld => ?_); refine with_tabW waterhourlaw04_RefillWithout.tab9 waterhourlaw04_RefillWithout.bits9 (fun HT_ HW_ => ?_)
            generalize wc.drew = w58 at HO_3 HO_9 HB hHeld ⊢
            refine pz_ 0 61 HT_ ?_
            refine pz_ 1 62 HT_ ?_
            refine one_ (i := 2) (N := some 63) #[true, true, true, false, false, false, false, false, false, false, false, false, false, false, false, false, false, false, false] rfl rfl (one_of HT_.out (by kernel_rfl)) (by decide) (fun K hK => ?_)
            refine goes_ Tryd.func33 (by kernel_rfl) rfl #[.slice A0 l0.length c0, .slice A3 l3.length c3] (by rfl) rfl rfl tm_ ?_
            with_reducible refine (refill_CheckTimes.calls _ _ l0 _ _ l3 t451 _ ?side1 ?side2 ?side3 ?side4 A38.out).mono ?_
            (case side1 => exact cl_ (Kd.C_below HR0.out HB.out))
            (case side2 => exact HC0.out)
            (case side3 => exact cl_ ((Kd.V_reads' HO_3.out).2.2))
            (case side4 => exact (Kd.V_reads' HO_3.out).2.1)
            rintro e w59 ⟨rfl, hb⟩
            refine ⟨_, rfl, ?_⟩
            have n0_ := a_ (Kd.V_below (vl_ HO_3.out) hb)
            have n1_ := a_ (Kd.R_below (rl_ HO_9.out) hb)
            have n2_ := a_ (below_step bl_ hb)
            clear HO_3
            clear HO_9
            clear HB
            have HO_3 := n0_
            have HO_9 := n1_
            have HB := n2_
            clear n0_ n1_ n2_
            (try clear hb)
            (try clear hb2)
            (try clear hk)
            (try clear hi)
            refine hK.out _ _ trivial (fun hHeld => ?_)
            clear hK K
            refine norm_ (a' := ?_) ?_ ?_
            rotate_left
            ·show Act.put _ (some 63) _ = _
             simp only [Act.put, List.setIfInBounds_toArray, List.set_cons_zero, List.set_cons_succ, i64_w, i32_w]
             rfl
            refine pz_ 3 64 HT_ ?_
            refine pz_ 4 65 HT_ ?_
            refine pu_ 5 66 HT_ ?_
            refine pu_ 6 67 HT_ ?_
            refine pu_ 7 68 HT_ ?_
            refine pu_ 8 69 HT_ ?_
            refine pu_ 9 70 HT_ ?_
            refine pu_ 10 71 HT_ ?_
            refine pu_ 11 72 HT_ ?_
            refine pu_ 12 73 HT_ ?_
            refine pu_ 13 74 HT_ ?_
            refine pu_ 14 75 HT_ ?_
            refine pu_ 15 76 HT_ ?_
            refine pu_ 16 77 HT_ ?_
            refine pu_ 17 78 HT_ ?_
            refine pz_ 18 79 HT_ ?_
            refine done_ (done_of HT_.out (by kernel_rfl)) ?_
            try go_wp2
            go_meet
            case rel => exact ⟨_, (false), (by first | rfl | (simp; done) | (simp [*]; done)), H', ⟨by have := HJ6.out; have := HJ26.out; first | omega | exact Nat.le_refl _⟩, ⟨vl_ HO_3.out⟩, ⟨rl_ HO_9.out⟩, ⟨bl_⟩⟩
          case rest =>
           clear HC37
           try clear c1
           try clear c2
           try clear p2
           try clear c3
           try clear c4
           try clear q4
           try clear c5
           try clear q5
           try clear c6
           try clear p6
           try clear c7
           try clear c10
           try clear c12
           try clear c18
           try clear c22
           try clear c26
           try clear c26b0
           try clear c26b1
           try clear c29
           try clear c31
           try clear c33
           try clear c35
           try clear c36
           try clear c37
           try clear c39
           try clear c39b0
           try clear c39b1
           try clear c40
           try clear c40b0
           try clear c40b1
           try clear c41
           try clear c41b0
           try clear c41b1
           try clear c43
           try clear c43b0
           try clear c43b1
           try clear c44
           try clear c44b0
           try clear c44b1
           try clear q49
           try clear c50
           try clear q50
           try clear p2
           try clear p6
           try clear q050
           try clear q49
           try clear q50
           obtain ⟨kq, x79_36, rfl, HA, HJ36, HO_3, HO_9, HB⟩ := hcut
           cases kq with
           | zero => exact absurd HA.out (by simp [waterhourlaw04_RefillWithout.j2])
           | succ kj36 =>
            have H := HA.out
            clear HA
            simp only [waterhourlaw04_RefillWithout.j2] at H
            by_cases c60 : x79_36 = true
            ·subst c60
             have H1 : (some false) = some r := by rw [if_pos rfl] at H; exact H
             clear H
             have H := H1
             clear H1
             exact absurd (H.trans (congrArg some hrt.out)) (by simp)
            ·replace c60 := Bool.eq_false_iff.mpr c60
             subst c60
             have H1 : (if 0 ≤ a2 then (if a2 < (l0.length : Int) then ((waterhourref04_Known.f ((rd_T51 l0 a2).f1.f0) ((rd_T51 l0 a2).f1.f1)).bind fun t470 => (if t470 = true then (waterhourlaw04_RefillWithout.j3 kj36 l0 l1 a2 l3 false) else ((refill_CheckTimes.f t445 l3).bind fun t471 => (waterhourlaw04_RefillWithout.j3 kj36 l0 l1 a2 l3 (t471 == 0))))) else (none)) else (none)) = some r := by rw [if_neg (show ¬ (false = true) by decide)] at H; exact H
             clear H
             have H := H1
             clear H1
             have HC61 := a_ H
             clear H
             go_upto_region 11 with (fail)
             go_cut [92] (fun v92 wc => ∃ (kq : Nat) (x92_60 : Bool), v92 = .bool x92_60 ∧ Aside0 (waterhourlaw04_RefillWithout.j3 kq l0 l1 a2 l3 x92_60 = some r) ∧ Aside0 (kq ≤ kj36) ∧ Aside0 (Kd.V (Kd.int .i64) 3 wc w.heap.size (fun k_ => (P3_ k_ ∨ w.heap.size ≤ k_)) (.slice A3 l3.length c3) l3) ∧ Aside0 (Below w.heap.size w wc))
             case first => as_aux_lemma =>
              have H := HC61.out
              clear HC61
              by_cases c62 : 0 ≤ a2
              ·rw [if_pos c62] at H
               have c62b0 : decide (0 ≤ a2) = true := decide_eq_true c62
               clear c62
               (first | rw [c62b0] | (simp only [i64_w, i32_w]; rw [c62b0]) | skip)
               by_cases c63 : a2 < (l0.length : Int)
               ·rw [if_pos c63] at H
                have c63b0 : decide (a2 < (l0.length : Int)) = true := decide_eq_true c63
                clear c63
                replace H := Option.bind_eq_some_iff.mp H
                obtain ⟨t470, A640, H⟩ := H
                replace H : (if t470 = true then (waterhourlaw04_RefillWithout.j3 kj36 l0 l1 a2 l3 false) else ((refill_CheckTimes.f t445 l3).bind fun t471 => (waterhourlaw04_RefillWithout.j3 kj36 l0 l1 a2 l3 (t471 == 0)))) = some r := H
                have A64 := a_ A640
                clear A640
                by_cases c65 : t470 = true
                ·subst c65
                 have H1 : (waterhourlaw04_RefillWithout.j3 kj36 l0 l1 a2 l3 false) = some r := by rw [if_pos rfl] at H; exact H
                 clear H
                 have H := H1
                 clear H1
                 have H' := a_ H
                 clear H
                 have p469 : 0 ≤ (a2 : Int) := of_decide_eq_true (by first | (with_reducible assumption) | assumption)
                 have q469 : a2 < (l0.length : Int) := of_decide_eq_true (by first | (with_reducible assumption) | assumption)
                 obtain ⟨ad469, e469, hx469_0, hx469_1, hx469_2, hx469_3⟩ := at_T51 HR0.out a2 p469 q469
                 cases e469
                 replace hx469_0 := (HB.out.cell (World.block_lt_of_cell? w _ hx469_0)).trans hx469_0
                 replace hx469_1 := (HB.out.cell (World.block_lt_of_cell? w _ hx469_1)).trans hx469_1
                 replace hx469_2 := (HB.out.cell (World.block_lt_of_cell? w _ hx469_2)).trans hx469_2
                 replace hx469_3 := (HB.out.cell (World.block_lt_of_cell? w _ hx469_3)).trans hx469_3
                 replace p469 := eq_true p469
                 replace q469 := eq_true q469
                 go_wp2_with (first | ((with_reducible refine gate_callee (f := 38) rfl ?_); refine goesL_ (some 85) rfl rfl Tryd.func38 (by kernel_rfl) rfl #[.agg #[.int .i64 ((rd_T51 l0 a2).f1.f0), .int .i64 ((rd_T51 l0 a2).f1.f1)]] rfl tm_ ?_; (with_reducible refine (waterhourref04_Known.calls ((rd_T51 l0 a2).f1.f0) ((rd_T51 l0 a2).f1.f1) true _ A64.out).mono ?_); rintro e w66 ⟨rfl, hb⟩; refine ⟨_, rfl, ?_⟩; have n0_ := a_ (Kd.V_below (vl_ HO_3.out) hb); have n1_ := a_ (Kd.R_below (rl_ HO_9.out) hb); have n2_ := a_ (below_step bl_ hb); clear HO_3; clear HO_9; clear HB; have HO_3 := n0_; have HO_9 := n1_; have HB := n2_; clear n0_ n1_ n2_; (try clear hb); (try clear hb2); (try clear hk); (try clear hi)))
                 go_meet
                 case rel => exact ⟨_, (false), (by first | rfl | (simp; done) | (simp [*]; done)), H', ⟨by have := HJ6.out; have := HJ26.out; have := HJ36.out; first | omega | exact Nat.le_refl _⟩, ⟨vl_ (Kd.V_mono HO_3.out (fun _ hk => hk.1))⟩, ⟨bl_⟩⟩
                ·replace c65 := Bool.eq_false_iff.mpr c65
                 subst c65
                 have H1 : ((refill_CheckTimes.f t445 l3).bind fun t471 => (waterhourlaw04_RefillWithout.j3 kj36 l0 l1 a2 l3 (t471 == 0))) = some r := by rw [if_neg (show ¬ (false = true) by decide)] at H; exact H
                 clear H
                 have H := H1
                 clear H1
                 replace H := Option.bind_eq_some_iff.mp H
                 obtain ⟨t471, A670, H⟩ := H
                 replace H : (waterhourlaw04_RefillWithout.j3 kj36 l0 l1 a2 l3 (t471 == 0)) = some r := H
                 have A67 := a_ A670
                 clear A670
                 have H' := a_ H
                 clear H
                 have p469 : 0 ≤ (a2 : Int) := of_decide_eq_true (by first | (with_reducible assumption) | assumption)
                 have q469 : a2 < (l0.length : Int) := of_decide_eq_true (by first | (with_reducible assumption) | assumption)
                 obtain ⟨ad469, e469, hx469_0, hx469_1, hx469_2, hx469_3⟩ := at_T51 HR0.out a2 p469 q469
                 cases e469
                 replace hx469_0 := (HB.out.cell (World.block_lt_of_cell? w _ hx469_0)).trans hx469_0
                 replace hx469_1 := (HB.out.cell (World.block_lt_of_cell? w _ hx469_1)).trans hx469_1
                 replace hx469_2 := (HB.out.cell (World.block_lt_of_cell? w _ hx469_2)).trans hx469_2
                 replace hx469_3 := (HB.out.cell (World.block_lt_of_cell? w _ hx469_3)).trans hx469_3
                 replace p469 := eq_true p469
                 replace q469 := eq_true q469
                 go_wp2_with (first | ((with_reducible refine gate_callee (f := 38) rfl ?_); refine goesL_ (some 85) rfl rfl Tryd.func38 (by kernel_rfl) rfl #[.agg #[.int .i64 ((rd_T51 l0 a2).f1.f0), .int .i64 ((rd_T51 l0 a2).f1.f1)]] rfl tm_ ?_; (with_reducible refine (waterhourref04_Known.calls ((rd_T51 l0 a2).f1.f0) ((rd_T51 l0 a2).f1.f1) false _ A64.out).mono ?_); rintro e w68 ⟨rfl, hb⟩; refine ⟨_, rfl, ?_⟩; have n0_ := a_ (Kd.V_below (vl_ HO_3.out) hb); have n1_ := a_ (Kd.R_below (rl_ HO_9.out) hb); have n2_ := a_ (below_step bl_ hb); clear HO_3; clear HO_9; clear HB; have HO_3 := n0_; have HO_9 := n1_; have HB := n2_; clear n0_ n1_ n2_; (try clear hb); (try clear hb2); (try clear hk); (try clear hi); obtain ⟨Ao69, co69, eo69⟩ := Kd.R_slice HO_9.out; subst eo69) | (go_at_call 33; (with_reducible refine (refill_CheckTimes.calls _ _ t445 _ _ l3 t471 _ ?side1 ?side2 ?side3 ?side4 A67.out).mono ?_); (case side1 => exact cl_ ((Kd.R_reads' HO_9.out).2.2)); (case side2 => exact (Kd.R_reads' HO_9.out).2.1); (case side3 => exact cl_ ((Kd.V_reads' HO_3.out).2.2)); (case side4 => exact (Kd.V_reads' HO_3.out).2.1); rintro e w70 ⟨rfl, hb⟩; have n0_ := a_ (Kd.V_below (vl_ HO_3.out) hb); have n1_ := a_ (Kd.R_below (rl_ HO_9.out) hb); have n2_ := a_ (below_step bl_ hb); clear HO_3; clear HO_9; clear HB; have HO_3 := n0_; have HO_9 := n1_; have HB := n2_; clear n0_ n1_ n2_; (try clear hb); (try clear hb2); (try clear hk); (try clear hi)))
                 go_meet
                 case rel => exact ⟨_, ((t471 == 0)), (by first | rfl | (simp; done) | (simp [*]; done)), H', ⟨by have := HJ6.out; have := HJ26.out; have := HJ36.out; first | omega | exact Nat.le_refl _⟩, ⟨vl_ (Kd.V_mono HO_3.out (fun _ hk => hk.1))⟩, ⟨bl_⟩⟩
               ·rw [if_neg c63] at H
                exact absurd H (by simp)
              ·rw [if_neg c62] at H
               exact absurd H (by simp)
             case rest =>
              clear HC61
              try clear c1
              try clear c2
              try clear p2
              try clear c3
              try clear c4
              try clear p4
              try clear q4
              try clear hx4
              try clear c5
              try clear q5
              try clear c6
              try clear p6
              try clear c7
              try clear c10
              try clear c12
              try clear c18
              try clear c22
              try clear c26
              try clear c26b0
              try clear c26b1
              try clear c29
              try clear c31
              try clear c33
              try clear c35
              try clear c36
              try clear c37
              try clear c38
              try clear c39
              try clear c39b0
              try clear c39b1
              try clear c40
              try clear c40b0
              try clear c40b1
              try clear c41
              try clear c41b0
              try clear c41b1
              try clear c43
              try clear c43b0
              try clear c43b1
              try clear c44
              try clear c44b0
              try clear c44b1
              try clear p46
              try clear q46
              try clear hx46
              try clear q49
              try clear c50
              try clear q50
              try clear c60
              try clear c62
              try clear c62b0
              try clear c63
              try clear c63b0
              try clear c65
              try clear hx469_0
              try clear hx469_1
              try clear hx469_2
              try clear hx469_3
              try clear p2
              try clear p469
              try clear p6
              try clear q050
              try clear q4
              try clear q469
              try clear q49
              try clear q5
              try clear q50
              obtain ⟨kq, x92_60, rfl, HA, HJ60, HO_3, HB⟩ := hcut
              cases kq with
              | zero => exact absurd HA.out (by simp [waterhourlaw04_RefillWithout.j3])
              | succ kj60 =>
               have H := HA.out
               clear HA
               simp only [waterhourlaw04_RefillWithout.j3] at H
               by_cases c71 : x92_60 = true
               ·subst c71
                have H1 : (if 0 ≤ a2 then (if a2 < (l0.length : Int) then (if a2 > 0 then (if 0 ≤ (wrap64 (a2 - 1)) then (if (wrap64 (a2 - 1)) < (l3.length : Int) then (waterhourlaw04_RefillWithout.j4 kj60 l0 l1 a2 l3 (wrap64 (((rd_T51 l0 a2).f0.f0) + (rd l3 (wrap64 (a2 - 1)))))) else (none)) else (none)) else (waterhourlaw04_RefillWithout.j4 kj60 l0 l1 a2 l3 ((rd_T51 l0 a2).f0.f0))) else (none)) else (none)) = some r := by rw [if_pos rfl] at H; exact H
                clear H
                have H := H1
                clear H1
                by_cases c72 : 0 ≤ a2
                ·rw [if_pos c72] at H
                 have c72b0 : decide (0 ≤ a2) = true := decide_eq_true c72
                 clear c72
                 by_cases c73 : a2 < (l0.length : Int)
                 ·rw [if_pos c73] at H
                  have c73b0 : decide (a2 < (l0.length : Int)) = true := decide_eq_true c73
                  clear c73
                  have HC74 := a_ H
                  clear H
                  have p472 : 0 ≤ (a2 : Int) := of_decide_eq_true (by first | (with_reducible assumption) | assumption)
                  have q472 : a2 < (l0.length : Int) := of_decide_eq_true (by first | (with_reducible assumption) | assumption)
                  obtain ⟨ad472, e472, hx472_0, hx472_1, hx472_2, hx472_3⟩ := at_T51 HR0.out a2 p472 q472
                  cases e472
                  replace hx472_0 := (HB.out.cell (World.block_lt_of_cell? w _ hx472_0)).trans hx472_0
                  replace hx472_1 := (HB.out.cell (World.block_lt_of_cell? w _ hx472_1)).trans hx472_1
                  replace hx472_2 := (HB.out.cell (World.block_lt_of_cell? w _ hx472_2)).trans hx472_2
                  replace hx472_3 := (HB.out.cell (World.block_lt_of_cell? w _ hx472_3)).trans hx472_3
                  replace p472 := eq_true p472
                  replace q472 := eq_true q472
                  go_upto_if 100 with (fail)
                  go_cut [11] (fun v11 wc => ∃ (kq : Nat) (x11_73 : Int), v11 = .int .i64 x11_73 ∧ Aside0 (waterhourlaw04_RefillWithout.j4 kq l0 l1 a2 l3 x11_73 = some r) ∧ Aside0 (kq ≤ kj60) ∧ Aside0 (Kd.V (Kd.int .i64) 3 wc w.heap.size (fun k_ => (P3_ k_ ∨ w.heap.size ≤ k_)) (.slice A3 l3.length c3) l3) ∧ Aside0 (Below w.heap.size w wc))
                  case first => as_aux_lemma =>
                   have H := HC74.out
                   clear HC74
                   by_cases c75 : a2 > 0
                   ·rw [if_pos c75] at H
                    have c75b0 : decide (0 < a2) = true := decide_eq_true c75
                    clear c75
                    (first | rw [c75b0] | (simp only [i64_w, i32_w]; rw [c75b0]) | skip)
                    obtain ⟨ji76, hji76⟩ : ∃ j_ : Int, (wrap64 (a2 - 1)) = j_ := ⟨_, rfl⟩
                    replace H : (if 0 ≤ (ji76) then (if (ji76) < (l3.length : Int) then (waterhourlaw04_RefillWithout.j4 kj60 l0 l1 a2 l3 (wrap64 (((rd_T51 l0 a2).f0.f0) + (rd l3 (ji76))))) else (none)) else (none)) = some r := by first | (rw [hji76] at H; exact H) | (simp only [hji76] at H ⊢; exact H)
                    have hji76w : (IntKind.i64.wrap (a2 - 1)) = ji76 := (i64_w _).trans hji76
                    by_cases c77 : 0 ≤ (ji76)
                    ·rw [if_pos c77] at H
                     have c77b0 : decide (0 ≤ (ji76)) = true := decide_eq_true c77
                     clear c77
                     by_cases c78 : (ji76) < (l3.length : Int)
                     ·rw [if_pos c78] at H
                      have c78b0 : decide ((ji76) < (l3.length : Int)) = true := decide_eq_true c78
                      clear c78
                      have H' := a_ H
                      clear H
                      have p473 : 0 ≤ ((ji76) : Int) := of_decide_eq_true (by first | (with_reducible assumption) | assumption)
                      have q473 : (ji76) < (l3.length : Int) := of_decide_eq_true (by first | (with_reducible assumption) | assumption)
                      obtain ⟨ad473, e473, hx473_0⟩ := Kd.at_int (Kd.V_reads' HO_3.out).2.2 (ji76) p473 q473
                      cases e473
                      replace p473 := eq_true p473
                      replace q473 := eq_true q473
                      go_wp2
                      go_meet
                      case rel => exact ⟨_, (wrap64 (((rd_T51 l0 a2).f0.f0) + (rd l3 (ji76)))), (by first | rfl | (simp; done) | (simp only [← hji76] <;> (first | rfl | simp)) | (simp [*]; done)), H', ⟨by have := HJ6.out; have := HJ26.out; have := HJ36.out; have := HJ60.out; first | omega | exact Nat.le_refl _⟩, ⟨vl_ HO_3.out⟩, ⟨bl_⟩⟩
                     ·rw [if_neg c78] at H
                      exact absurd H (by simp)
                    ·rw [if_neg c77] at H
                     exact absurd H (by simp)
                   ·rw [if_neg c75] at H
                    have c75b0 : decide (0 < a2) = false := decide_eq_false c75
                    clear c75
                    (first | rw [c75b0] | (simp only [i64_w, i32_w]; rw [c75b0]) | skip)
                    have H' := a_ H
                    clear H
                    go_wp2
                    go_meet
                    case rel => exact ⟨_, ((rd_T51 l0 a2).f0.f0), (by first | rfl | (simp; done) | (simp [*]; done)), H', ⟨by have := HJ6.out; have := HJ26.out; have := HJ36.out; have := HJ60.out; first | omega | exact Nat.le_refl _⟩, ⟨vl_ HO_3.out⟩, ⟨bl_⟩⟩
                  case rest =>
                   clear HC74
                   try clear c1
                   try clear c2
                   try clear p2
                   try clear c3
                   try clear c4
                   try clear p4
                   try clear q4
                   try clear hx4
                   try clear c5
                   try clear q5
                   try clear c6
                   try clear p6
                   try clear c7
                   try clear c10
                   try clear c12
                   try clear c18
                   try clear c22
                   try clear c26
                   try clear c26b0
                   try clear c26b1
                   try clear c29
                   try clear c31
                   try clear c33
                   try clear c35
                   try clear c36
                   try clear c37
                   try clear c38
                   try clear c39
                   try clear c39b0
                   try clear c39b1
                   try clear c40
                   try clear c40b0
                   try clear c40b1
                   try clear c41
                   try clear c41b0
                   try clear c41b1
                   try clear c43
                   try clear c43b0
                   try clear c43b1
                   try clear c44
                   try clear c44b0
                   try clear c44b1
                   try clear p46
                   try clear q46
                   try clear hx46
                   try clear p47
                   try clear q47
                   try clear hx47
                   try clear q49
                   try clear c50
                   try clear q50
                   try clear c60
                   try clear c62
                   try clear c62b0
                   try clear c63
                   try clear c63b0
                   try clear p64
                   try clear c65
                   try clear c71
                   try clear c72
                   try clear c72b0
                   try clear c73
                   try clear c73b0
                   try clear c75
                   try clear c75b0
                   try clear c77
                   try clear c77b0
                   try clear c78
                   try clear c78b0
                   try clear hx469_0
                   try clear hx469_1
                   try clear hx469_2
                   try clear hx469_3
                   try clear hx472_0
                   try clear hx472_1
                   try clear hx472_2
                   try clear hx472_3
                   try clear hx473_0
                   try clear p2
                   try clear p4
                   try clear p46
                   try clear p469
                   try clear p472
                   try clear p473
                   try clear p6
                   try clear q050
                   try clear q4
                   try clear q46
                   try clear q469
                   try clear q472
                   try clear q473
                   try clear q49
                   try clear q5
                   try clear q50
                   obtain ⟨kq, x11_73, rfl, HA, HJ73, HO_3, HB⟩ := hcut
                   cases kq with
                   | zero => exact absurd HA.out (by simp [waterhourlaw04_RefillWithout.j4])
                   | succ kj73 =>
                    have H := HA.out
                    clear HA
                    simp only [waterhourlaw04_RefillWithout.j4] at H
                    have HC79 := a_ H
                    clear H
                    go_upto_if 111 with (fail)
                    go_cut [11] (fun v11 wc => ∃ (kq : Nat) (x11_78 : Int), v11 = .int .i64 x11_78 ∧ Aside0 (waterhourlaw04_RefillWithout.j5 kq l0 l1 a2 l3 x11_78 = some r) ∧ Aside0 (kq ≤ kj73) ∧ Aside0 (Kd.V (Kd.int .i64) 3 wc w.heap.size (fun k_ => (P3_ k_ ∨ w.heap.size ≤ k_)) (.slice A3 l3.length c3) l3) ∧ Aside0 (Below w.heap.size w wc))
                    case first => as_aux_lemma =>
                     have H := HC79.out
                     clear HC79
                     by_cases c80 : a2 < (l3.length : Int)
                     ·rw [if_pos c80] at H
                      have c80b0 : decide (a2 < (l3.length : Int)) = true := decide_eq_true c80
                      clear c80
                      (first | rw [c80b0] | (simp only [i64_w, i32_w]; rw [c80b0]) | skip)
                      by_cases c81 : 0 ≤ a2
                      ·rw [if_pos c81] at H
                       have c81b0 : decide (0 ≤ a2) = true := decide_eq_true c81
                       clear c81
                       obtain ⟨ji82, hji82⟩ : ∃ j_ : Int, (wrap64 (a2 + 1)) = j_ := ⟨_, rfl⟩
                       replace H : (if 0 ≤ (ji82) then (if (ji82) < (l0.length : Int) then (waterhourlaw04_RefillWithout.j5 kj73 l0 l1 a2 l3 (mx x11_73 (wrap64 ((rd l3 a2) - ((rd_T51 l0 (ji82)).f0.f1))))) else (none)) else (none)) = some r := by first | (rw [hji82] at H; exact H) | (simp only [hji82] at H ⊢; exact H)
                       have hji82w : (IntKind.i64.wrap (a2 + 1)) = ji82 := (i64_w _).trans hji82
                       by_cases c83 : 0 ≤ (ji82)
                       ·rw [if_pos c83] at H
                        have c83b0 : decide (0 ≤ (ji82)) = true := decide_eq_true c83
                        clear c83
                        by_cases c84 : (ji82) < (l0.length : Int)
                        ·rw [if_pos c84] at H
                         have c84b0 : decide ((ji82) < (l0.length : Int)) = true := decide_eq_true c84
                         clear c84
                         obtain ⟨ji85, hji85⟩ : ∃ j_ : Int, (mx x11_73 (wrap64 ((rd l3 a2) - ((rd_T51 l0 (ji82)).f0.f1)))) = j_ := ⟨_, rfl⟩
                         replace H : (waterhourlaw04_RefillWithout.j5 kj73 l0 l1 a2 l3 ji85) = some r := by first | (rw [hji85] at H; exact H) | (simp only [hji85] at H ⊢; exact H)
                         have hji85_ : (if x11_73 < (wrap64 ((rd l3 a2) - ((rd_T51 l0 (ji82)).f0.f1))) then (wrap64 ((rd l3 a2) - ((rd_T51 l0 (ji82)).f0.f1))) else x11_73) = ji85 := hji85
                         have H' := a_ H
                         clear H
                         try go_wp2
                         have n0_ := a_ (Kd.V_drew HO_3.out)
                         have n1_ := a_ (below_drew1 HB.out)
                         clear HO_3
                         clear HB
                         have HO_3 := n0_
                         have HB := n1_
                         clear n0_ n1_
                         have p474 : 0 ≤ (a2 : Int) := of_decide_eq_true (by first | (with_reducible assumption) | assumption)
                         have q474 : a2 < (l3.length : Int) := of_decide_eq_true (by first | (with_reducible assumption) | assumption)
                         obtain ⟨ad474, e474, hx474_0⟩ := Kd.at_int (Kd.V_reads' HO_3.out).2.2 a2 p474 q474
                         cases e474
                         replace p474 := eq_true p474
                         replace q474 := eq_true q474
                         have p475 : 0 ≤ ((ji82) : Int) := of_decide_eq_true (by first | (with_reducible assumption) | assumption)
                         have q475 : (ji82) < (l0.length : Int) := of_decide_eq_true (by first | (with_reducible assumption) | assumption)
                         obtain ⟨ad475, e475, hx475_0, hx475_1, hx475_2, hx475_3⟩ := at_T51 HR0.out (ji82) p475 q475
                         have hw475_3 := hx475_3
                         have hw475_2 := hx475_2
                         have hw475_1 := hx475_1
                         have hw475_0 := hx475_0
                         obtain rfl : ad472 = ad475 := (by injection e475)
                         replace hx475_0 := (HB.out.cell (World.block_lt_of_cell? w _ hx475_0)).trans hx475_0
                         replace hx475_1 := (HB.out.cell (World.block_lt_of_cell? w _ hx475_1)).trans hx475_1
                         replace hx475_2 := (HB.out.cell (World.block_lt_of_cell? w _ hx475_2)).trans hx475_2
                         replace hx475_3 := (HB.out.cell (World.block_lt_of_cell? w _ hx475_3)).trans hx475_3
                         replace p475 := eq_true p475
                         replace q475 := eq_true q475
                         refine start_ (n := 15) (S := fun w' => w'.cell? (ad474.add (a2).toNat) = some (.int .i64 (rd l3 a2)) ∧ w'.cell? (ad472.add (((ji82)).toNat * 4)) = some (.int .i64 ((rd_T51 l0 (ji82)).f0.f0)) ∧ w'.cell? ⟨(ad472.add (((ji82)).toNat * 4)).block, (ad472.add (((ji82)).toNat * 4)).off + 1, none⟩ = some (.int .i64 ((rd_T51 l0 (ji82)).f0.f1)) ∧ w'.cell? ⟨(ad472.add (((ji82)).toNat * 4)).block, (ad472.add (((ji82)).toNat * 4)).off + 2, none⟩ = some (.int .i64 ((rd_T51 l0 (ji82)).f1.f0)) ∧ w'.cell? ⟨(ad472.add (((ji82)).toNat * 4)).block, (ad472.add (((ji82)).toNat * 4)).off + 3, none⟩ = some (.int .i64 ((rd_T51 l0 (ji82)).f1.f1))) (ds := []) #[false, false, false, false, false, false, false, false, false, false, false, false, false, false, false] (by kernel_rfl) rfl rfl ⟨hx474_0, ((HB.out.cell (World.block_lt_of_cell? w _ hw475_0)).trans hw475_0), ((HB.out.cell (World.block_lt_of_cell? w _ hw475_1)).trans hw475_1), ((HB.out.cell (World.block_lt_of_cell? w _ hw475_2)).trans hw475_2), ((HB.out.cell (World.block_lt_of_cell? w _ hw475_3)).trans hw475_3)⟩ (fun hHeld => ?_); refine with_tabW waterhourlaw04_RefillWithout.tab16 waterhourlaw04_RefillWithout.bits16 (fun HT_ HW_ => ?_)
                         generalize wc.drew = w86 at HO_3 HB hx474_0 hx475_0 hx475_1 hx475_2 hx475_3 hHeld ⊢
                         refine pz_ 0 112 HT_ ?_
                         refine pz_ 1 113 HT_ ?_
                         refine pz_ 2 114 HT_ ?_
                         refine pz_ 3 115 HT_ ?_
                         refine pz_ 5 117 HT_ ?_
                         refine pz_ 6 118 HT_ ?_
                         refine pz_ 7 119 HT_ ?_
                         refine pz_ 8 120 HT_ ?_
                         refine pz_ 9 121 HT_ ?_
                         refine pz_ 10 122 HT_ ?_
                         refine take_ (i := 4) (N := some 116) (v := ?_) (a' := ?_) #[true, true, true, true, true, true, true, true, true, true, true, false, false, false, false] rfl rfl (take_ofW HT_.out HW_.out (by kernel_rfl)) (fun _ _ _ h => h) (Or.inl ⟨by rfl, ?_⟩) hHeld ?_ ?_
                         rotate_left
                         ·rintro w' ⟨s0, s1, s2, s3, s4⟩
                          go_simp
                          with_reducible rfl
                         rotate_left
                         ·simp only [Act.put, List.setIfInBounds_toArray, List.set_cons_zero, List.set_cons_succ, i64_w, i32_w]
                          rfl
                         refine take_ (i := 11) (N := some 123) (v := ?_) (a' := ?_) #[true, true, true, true, true, true, true, true, true, true, true, true, false, false, false] rfl rfl (take_ofW HT_.out HW_.out (by kernel_rfl)) (fun _ _ _ h => h) (Or.inl ⟨by rfl, ?_⟩) hHeld ?_ ?_
                         rotate_left
                         ·rintro w' ⟨s0, s1, s2, s3, s4⟩
                          go_simp
                          with_reducible rfl
                         rotate_left
                         ·simp only [Act.put, List.setIfInBounds_toArray, List.set_cons_zero, List.set_cons_succ, i64_w, i32_w]
                          rfl
                         refine pz_ 12 124 HT_ ?_
                         refine pz_ 13 125 HT_ ?_
                         refine pz_ 14 11 HT_ ?_
                         refine done_ (done_of HT_.out (by kernel_rfl)) ?_
                         try go_wp2
                         go_meet
                         case rel => exact ⟨_, (ji85), (by first | rfl | (simp; done) | (simp only [← hji85] <;> (first | rfl | simp)) | (simp [*]; done)), H', ⟨by have := HJ6.out; have := HJ26.out; have := HJ36.out; have := HJ60.out; have := HJ73.out; first | omega | exact Nat.le_refl _⟩, ⟨vl_ HO_3.out⟩, ⟨bl_⟩⟩
                        ·rw [if_neg c84] at H
                         exact absurd H (by simp)
                       ·rw [if_neg c83] at H
                        exact absurd H (by simp)
                      ·rw [if_neg c81] at H
                       exact absurd H (by simp)
                     ·rw [if_neg c80] at H
                      have c80b0 : decide (a2 < (l3.length : Int)) = false := decide_eq_false c80
                      clear c80
                      (first | rw [c80b0] | (simp only [i64_w, i32_w]; rw [c80b0]) | skip)
                      have H' := a_ H
                      clear H
                      go_wp2
                      go_meet
                      case rel => exact ⟨_, (x11_73), (by first | rfl | (simp; done) | (simp [*]; done)), H', ⟨by have := HJ6.out; have := HJ26.out; have := HJ36.out; have := HJ60.out; have := HJ73.out; first | omega | exact Nat.le_refl _⟩, ⟨vl_ HO_3.out⟩, ⟨bl_⟩⟩
                    case rest =>
                     clear HC79
                     try clear c1
                     try clear c2
                     try clear p2
                     try clear c3
                     try clear c4
                     try clear p4
                     try clear q4
                     try clear hx4
                     try clear c5
                     try clear q5
                     try clear c6
                     try clear p6
                     try clear c7
                     try clear c8
                     try clear c10
                     try clear c12
                     try clear c18
                     try clear c22
                     try clear c26
                     try clear c26b0
                     try clear c26b1
                     try clear c29
                     try clear c31
                     try clear c33
                     try clear c35
                     try clear c36
                     try clear c37
                     try clear c38
                     try clear c39
                     try clear c39b0
                     try clear c39b1
                     try clear c40
                     try clear c40b0
                     try clear c40b1
                     try clear c41
                     try clear c41b0
                     try clear c41b1
                     try clear c43
                     try clear c43b0
                     try clear c43b1
                     try clear c44
                     try clear c44b0
                     try clear c44b1
                     try clear p46
                     try clear q46
                     try clear hx46
                     try clear p47
                     try clear q47
                     try clear hx47
                     try clear q49
                     try clear c50
                     try clear q50
                     try clear c60
                     try clear c62
                     try clear c62b0
                     try clear c63
                     try clear c63b0
                     try clear p64
                     try clear c65
                     try clear c71
                     try clear c72
                     try clear c72b0
                     try clear c73
                     try clear c73b0
                     try clear c75
                     try clear c75b0
                     try clear c77
                     try clear c77b0
                     try clear c78
                     try clear c78b0
                     try clear c80
                     try clear c80b0
                     try clear c81
                     try clear c81b0
                     try clear c83
                     try clear c83b0
                     try clear c84
                     try clear c84b0
                     try clear hx469_0
                     try clear hx469_1
                     try clear hx469_2
                     try clear hx469_3
                     try clear hx472_0
                     try clear hx472_1
                     try clear hx472_2
                     try clear hx472_3
                     try clear hx473_0
                     try clear hx474_0
                     try clear hx475_0
                     try clear hx475_1
                     try clear hx475_2
                     try clear hx475_3
                     try clear p2
                     try clear p4
                     try clear p46
                     try clear p469
                     try clear p47
                     try clear p472
                     try clear p473
                     try clear p474
                     try clear p475
                     try clear p6
                     try clear p64
                     try clear q050
                     try clear q4
                     try clear q46
                     try clear q469
                     try clear q47
                     try clear q472
                     try clear q473
                     try clear q474
                     try clear q475
                     try clear q49
                     try clear q5
                     try clear q50
                     obtain ⟨kq, x11_78, rfl, HA, HJ78, HO_3, HB⟩ := hcut
                     cases kq with
                     | zero => exact absurd HA.out (by simp [waterhourlaw04_RefillWithout.j5])
                     | succ kj78 =>
                      have H := HA.out
                      clear HA
                      simp only [waterhourlaw04_RefillWithout.j5] at H
                      by_cases c87 : 0 ≤ a2
                      ·rw [if_pos c87] at H
                       have c87b0 := eq_true c87
                       have c87b1 : decide (0 ≤ a2) = true := decide_eq_true c87
                       clear c87
                       by_cases c88 : a2 ≤ (l3.length : Int)
                       ·rw [if_pos c88] at H
                        have c88b0 := eq_true c88
                        have c88b1 : decide (a2 ≤ (l3.length : Int)) = true := decide_eq_true c88
                        clear c88
                        obtain ⟨y476, hy476⟩ : ∃ y_ : List Int, y_ = (l3.take (a2 : Int).toNat) := ⟨_, rfl⟩
                        replace H : ((slices_Concat_int_int.f kj78 (([y476, (([x11_78] : List Int)), (l3.drop (a2 : Int).toNat)] : List (List Int)))).bind fun t492 => ((refill_CheckTimes.f l0 t492).bind fun t495 => (if t495 = 0 then (waterhourlaw04_RefillWithout.j6 kj78 l0 l1 l3) else (some false)))) = some r := by first | (rw [hy476]; with_reducible exact H) | (have H2_ := (Option.bind_some _ _).symm.trans H; rw [hy476]; with_reducible exact H2_) | (have H2_ := (Option.bind_some _ _).symm.trans H; with_reducible exact H2_) | with_reducible exact H | (rw [hy476]; exact H) | exact H
                        have Ny476 := a_ hy476
                        clear hy476
                        obtain ⟨y481, hy481⟩ : ∃ y_ : List Int, y_ = (([x11_78] : List Int)) := ⟨_, rfl⟩
                        replace H : ((slices_Concat_int_int.f kj78 (([y476, y481, (l3.drop (a2 : Int).toNat)] : List (List Int)))).bind fun t492 => ((refill_CheckTimes.f l0 t492).bind fun t495 => (if t495 = 0 then (waterhourlaw04_RefillWithout.j6 kj78 l0 l1 l3) else (some false)))) = some r := by first | (rw [hy481]; with_reducible exact H) | (have H2_ := (Option.bind_some _ _).symm.trans H; rw [hy481]; with_reducible exact H2_) | (have H2_ := (Option.bind_some _ _).symm.trans H; with_reducible exact H2_) | with_reducible exact H | (rw [hy481]; exact H) | exact H
                        have Ny481 := a_ hy481
                        clear hy481
                        have c89b0 := eq_true (of_decide_eq_true (by first | (with_reducible assumption) | assumption) : 0 ≤ a2)
                        have c90b0 := eq_true (of_decide_eq_true (by first | (with_reducible assumption) | assumption) : a2 ≤ (l3.length : Int))
                        obtain ⟨y484, hy484⟩ : ∃ y_ : List Int, y_ = (l3.drop (a2 : Int).toNat) := ⟨_, rfl⟩
                        replace H : ((slices_Concat_int_int.f kj78 (([y476, y481, y484] : List (List Int)))).bind fun t492 => ((refill_CheckTimes.f l0 t492).bind fun t495 => (if t495 = 0 then (waterhourlaw04_RefillWithout.j6 kj78 l0 l1 l3) else (some false)))) = some r := by first | (rw [hy484]; with_reducible exact H) | (have H2_ := (Option.bind_some _ _).symm.trans H; rw [hy484]; with_reducible exact H2_) | (have H2_ := (Option.bind_some _ _).symm.trans H; with_reducible exact H2_) | with_reducible exact H | (rw [hy484]; exact H) | exact H
                        have Ny484 := a_ hy484
                        clear hy484
                        obtain ⟨y489, hy489⟩ : ∃ y_ : List (List Int), y_ = (([y476, y481, y484] : List (List Int))) := ⟨_, rfl⟩
                        replace H : ((slices_Concat_int_int.f kj78 y489).bind fun t492 => ((refill_CheckTimes.f l0 t492).bind fun t495 => (if t495 = 0 then (waterhourlaw04_RefillWithout.j6 kj78 l0 l1 l3) else (some false)))) = some r := by first | (rw [hy489]; with_reducible exact H) | (have H2_ := (Option.bind_some _ _).symm.trans H; rw [hy489]; with_reducible exact H2_) | (have H2_ := (Option.bind_some _ _).symm.trans H; with_reducible exact H2_) | with_reducible exact H | (rw [hy489]; exact H) | exact H
                        have Ny489 := a_ hy489
                        clear hy489
                        replace H := Option.bind_eq_some_iff.mp H
                        obtain ⟨t492, A910, H⟩ := H
                        replace H : ((refill_CheckTimes.f l0 t492).bind fun t495 => (if t495 = 0 then (waterhourlaw04_RefillWithout.j6 kj78 l0 l1 l3) else (some false))) = some r := H
                        have A91 := a_ A910
                        clear A910
                        replace H := Option.bind_eq_some_iff.mp H
                        obtain ⟨t495, A920, H⟩ := H
                        replace H : (if t495 = 0 then (waterhourlaw04_RefillWithout.j6 kj78 l0 l1 l3) else (some false)) = some r := H
                        have A92 := a_ A920
                        clear A920
                        by_cases c93 : t495 = 0
                        ·rw [if_pos c93] at H
                         have c93b0 : (t495 == 0) = true := beq_iff_eq.mpr c93
                         have c93b1 : (t495 != 0) = false := bne_eq_false_iff_eq.mpr c93
                         clear c93
                         have H' := a_ H
                         clear H
                         try go_wp2
                         have n0_ := a_ (Kd.V_drew HO_3.out)
                         have n1_ := a_ (below_drew1 HB.out)
                         clear HO_3
                         clear HB
                         have HO_3 := n0_
                         have HB := n1_
                         clear n0_ n1_
                         have q95 : (a2 : Int) ≤ ((l3.length : Int) : Int) := of_decide_eq_true (by first | (with_reducible assumption) | assumption)
                         obtain ⟨i095, hi095, _, hsz95, _⟩ := info_parts info3
                         have hroom95 : l3.length ≤ c3 := (Kd.V_reads' HO_3.out).2.1
                         have hC95 : Kd.F (Kd.int .i64) _ _ A3 l3.length l3 := (Kd.V_at (base := w.heap.size) HO_3.out).2.2
                         have hcut95 := cutMax.to (P := Tryd.prog) 26 3 .i64 Tryd.underlying26 hi095 A3 l3.length c3 a2 (of_decide_eq_true (by first | (with_reducible assumption) | assumption)) q95 hroom95
                         have hr95 := Kd.F_take (m := (a2 : Int).toNat) hC95 (by omega)
                         have hy95 : y476.length = (a2 : Int).toNat := (by rw [Ny476.out, List.length_take]; omega)
                         rw [← Ny476.out] at hr95
                         rw [← hy95] at hcut95
                         have HO480 := a_ (show Kd.V (Kd.int .i64) 3 _ w.heap.size _ (.slice A3 y476.length y476.length) y476 from Kd.V_mk (by omega) hr95)
                         have HC480 := a_ (show y476.length ≤ y476.length from by omega)
                         clear hr95 hC95 hroom95 hi095 hsz95
                         have KY95 := a_ hy95
                         clear hy95
                         replace q95 := eq_true q95
                         have q96 : (a2 : Int) ≤ ((l3.length : Int) : Int) := of_decide_eq_true (by first | (with_reducible assumption) | assumption)
                         obtain ⟨i096, hi096, _, hsz96, _⟩ := info_parts info3
                         have hroom96 : l3.length ≤ c3 := (Kd.V_reads' HO_3.out).2.1
                         have hC96 : Kd.F (Kd.int .i64) _ _ A3 l3.length l3 := (Kd.V_at (base := w.heap.size) HO_3.out).2.2
                         have q096 : (0 : Int) ≤ (a2 : Int) := of_decide_eq_true (by first | (with_reducible assumption) | assumption)
                         have hcut96 := cut_from (P := Tryd.prog) 26 3 .i64 Tryd.underlying26 hi096 1 hsz96 A3 l3.length c3 a2 q096 q96
                         have hr96 := Kd.F_cut (m := (a2 : Int).toNat) (c := c3) hC96 (by omega) hroom96
                         obtain ⟨A96, hA96⟩ : ∃ A1, A1 = (if c3 = (a2 : Int).toNat then A3 else (A3 : Option Addr).map (·.add ((a2 : Int).toNat * 1))) := ⟨_, rfl⟩
                         obtain ⟨c96, hc96⟩ : ∃ c1, c1 = c3 - (a2 : Int).toNat := ⟨_, rfl⟩
                         have hy96 : y484.length = l3.length - (a2 : Int).toNat := (by rw [Ny484.out, List.length_drop] <;> omega)
                         rw [show (l3).drop (a2 : Int).toNat = y484 from Ny484.out.symm] at hr96
                         replace hr96 : Kd.F (Kd.int .i64) _ _ A96 y484.length y484 := (by rw [hA96]; exact hr96)
                         rw [← hy96, ← hA96, ← hc96] at hcut96
                         have HO488 := a_ (show Kd.V (Kd.int .i64) 3 _ w.heap.size _ (.slice A96 y484.length c96) y484 from Kd.V_mk (by rw [hy96, hc96]; exact Nat.sub_le_sub_right hroom96 _) hr96)
                         have HC488 := a_ (show y484.length ≤ c96 from by rw [hy96, hc96]; exact Nat.sub_le_sub_right hroom96 _)
                         clear hr96 hC96 hroom96 hi096 hsz96 hc96
                         have KY96 := a_ hy96
                         have KA96 := a_ hA96
                         clear hy96 hA96
                         replace q96 := eq_true q96
                         refine start_ (n := 14) (S := fun w' => True) (ds := []) #[false, false, false, false, false, false, false, false, false, false, false, false, false, false] (by kernel_rfl) rfl rfl trivial (fun hHeld => ?_); refine with_tabW waterhourlaw04_RefillWithout.tab17 waterhourlaw04_RefillWithout.bits17 (fun HT_ HW_ => ?_)
                         generalize wc.drew = w94 at HO_3 HB HO480 HO488 hHeld ⊢
                         refine pz_ 0 126 HT_ ?_
                         refine pz_ 1 127 HT_ ?_
                         refine pz_ 2 128 HT_ ?_
                         refine pz_ 3 129 HT_ ?_
                         refine pz_ 4 130 HT_ ?_
                         refine pz_ 5 131 HT_ ?_
                         refine pz_ 7 133 HT_ ?_
                         refine pz_ 8 134 HT_ ?_
                         refine pz_ 9 135 HT_ ?_
                         refine one_ (i := 6) (N := some 132) #[true, true, true, true, true, true, true, true, true, true, false, false, false, false] rfl rfl (one_of HT_.out (by kernel_rfl)) (by decide) (fun K hK => ?_)
                         refine Kd.R_lit_step (Kd.int .i64) _ 3 ?hg (N := 132) ?hd (xs := ([x11_78] : List Int)) (inner := [.int .i64 x11_78]) (ok := fun _ => True) (okp := fun _ => True) ?hr ?hp (fun _ hk => hk) trivial (Below.refl _ _) (Nat.le_refl _) (by simp) ?_; (case hd => rfl); (case hg => rfl); (case hr => first | (go_simp; done) | (go_simp; rfl)); (case hp => exact (Reps.one (show Kd.M (Kd.int .i64) _ _ _ x11_78 [.int .i64 x11_78] from rfl) (Reps.none _ _)))
                         intro v482 w97 ho98 hb hg_ hnew_
                         clear hg_ hnew_
                         (first | rw [← Ny481.out] at ho98 | (simp only [Int.reduceToNat] at ho98; rw [← Ny481.out] at ho98))
                         have n0_ := a_ (Kd.V_elder' (vl_ HO_3.out) (Kd.R_base ho98) hb)
                         have n1_ := a_ (Kd.V_elder' (vl_ HO480.out) (Kd.R_base ho98) hb)
                         have n2_ := a_ (Kd.V_elder' (vl_ HO488.out) (Kd.R_base ho98) hb)
                         have n3_ := a_ (Kd.R_lower (Kd.R_newM (M := fun k_ => (w.heap.size ≤ k_)) ho98 (below_size bl_) (fun k_ h_ => h_)) (below_size bl_))
                         have n4_ := a_ (below_step bl_ hb)
                         clear HO_3
                         clear HO480
                         clear HO488
                         clear HB
                         have HO_3 := n0_
                         have HO480 := n1_
                         have HO488 := n2_
                         have HO483 := n3_
                         have HB := n4_
                         clear n0_ n1_ n2_ n3_ n4_
                         clear hb ho98
                         obtain ⟨Ao99, co99, eo99⟩ := Kd.R_slice HO483.out
                         (first | subst eo99 | (injection eo99 with f1_ f2_ f3_; have f4_ := f1_.symm; have f5_ := f3_.symm; clear f1_ f2_ f3_; subst f4_; subst f5_))
                         refine hK.out _ _ trivial (fun hHeld => ?_)
                         clear hK K
                         refine norm_ (a' := ?_) ?_ ?_
                         rotate_left
                         ·show Act.put _ (some 132) _ = _
                          simp only [Act.put, List.setIfInBounds_toArray, List.set_cons_zero, List.set_cons_succ, i64_w, i32_w]
                          rfl
                         refine one_ (i := 10) (N := some 136) #[true, true, true, true, true, true, true, true, true, true, true, false, false, false] rfl rfl (one_of HT_.out (by kernel_rfl)) (by decide) (fun K hK => ?_)
                         refine Kd.N_lit_step (Kd.slice 3 (Kd.int .i64)) _ 26 ?hg (N' := 136) ?hd (xs := ([y476, y481, y484] : List (List Int))) (inner := [.slice A3 y476.length y476.length, .slice Ao99 y481.length co99, .slice A96 y484.length c96]) (ok := (fun k_ => (P3_ k_ ∨ w.heap.size ≤ k_))) (okp := (fun k_ => (P3_ k_ ∨ w.heap.size ≤ k_))) ?hr ?hp (fun _ hk => hk) ((show ∀ k_, w97.heap.size ≤ k_ → (fun k_ => (P3_ k_ ∨ w.heap.size ≤ k_)) k_ from fun k_ hk => (.inr (Nat.le_trans (below_size bl_) hk))) _ (Nat.le_refl _)) (Below.refl _ _) (Nat.le_refl _) (by simp) ?_; (case hd => rfl); (case hg => rfl); (case hr => first | (go_simp; done) | (go_simp; rfl)); (case hp => exact (Reps.one (show Kd.FK (Kd.slice 3 (Kd.int .i64)) _ _ y476 [.slice A3 y476.length y476.length] from (Kd.FK_slice_mk (Kd.V_reads' (Kd.V_mono (ok' := (fun k_ => (P3_ k_ ∨ w.heap.size ≤ k_))) (HO480.out) (fun k_ hk => hk.1))).2.1 (Kd.V_F (Kd.V_mono (ok' := (fun k_ => (P3_ k_ ∨ w.heap.size ≤ k_))) (HO480.out) (fun k_ hk => hk.1))))) (Reps.one (show Kd.FK (Kd.slice 3 (Kd.int .i64)) _ _ y481 [.slice Ao99 y481.length co99] from (Kd.FK_slice_mk (Kd.R_reads' (Kd.R_mono (ok' := (fun k_ => (P3_ k_ ∨ w.heap.size ≤ k_))) (HO483.out) (fun k_ hk => (.inr (hk.1))))).2.1 (Kd.R_F (Kd.R_mono (ok' := (fun k_ => (P3_ k_ ∨ w.heap.size ≤ k_))) (HO483.out) (fun k_ hk => (.inr (hk.1))))))) (Reps.one (show Kd.FK (Kd.slice 3 (Kd.int .i64)) _ _ y484 [.slice A96 y484.length c96] from (Kd.FK_slice_mk (Kd.V_reads' (Kd.V_mono (ok' := (fun k_ => (P3_ k_ ∨ w.heap.size ≤ k_))) (HO488.out) (fun k_ hk => hk.1))).2.1 (Kd.V_F (Kd.V_mono (ok' := (fun k_ => (P3_ k_ ∨ w.heap.size ≤ k_))) (HO488.out) (fun k_ hk => hk.1))))) (Reps.none _ _)))))
                         intro v490 w100 ho101 hb hg_ hnew_
                         clear hg_ hnew_
                         (first | rw [← Ny489.out] at ho101 | (simp only [Int.reduceToNat] at ho101; rw [← Ny489.out] at ho101))
                         have n0_ := a_ (Kd.V_elder' (vl_ HO_3.out) (Kd.N_base ho101) hb)
                         have n1_ := a_ (Kd.V_elder' (vl_ HO480.out) (Kd.N_base ho101) hb)
                         have n2_ := a_ (Kd.V_elder' (vl_ HO488.out) (Kd.N_base ho101) hb)
                         have n3_ := a_ (Kd.N_lower ho101 (below_size bl_))
                         have n4_ := a_ (below_step bl_ hb)
                         clear HO_3
                         clear HO480
                         clear HO488
                         clear HB
                         clear HO483
                         have HO_3 := n0_
                         have HO480 := n1_
                         have HO488 := n2_
                         have HO491 := n3_
                         have HB := n4_
                         clear n0_ n1_ n2_ n3_ n4_
                         clear hb ho101
                         obtain ⟨Ao102, co102, eo102⟩ := Kd.N_slice HO491.out
                         (first | subst eo102 | (injection eo102 with f1_ f2_ f3_; have f4_ := f1_.symm; have f5_ := f3_.symm; clear f1_ f2_ f3_; subst f4_; subst f5_))
                         refine hK.out _ _ trivial (fun hHeld => ?_)
                         clear hK K
                         refine norm_ (a' := ?_) ?_ ?_
                         rotate_left
                         ·show Act.put _ (some 136) _ = _
                          simp only [Act.put, List.setIfInBounds_toArray, List.set_cons_zero, List.set_cons_succ, i64_w, i32_w]
                          rfl
                         refine one_ (i := 11) (N := some 137) #[true, true, true, true, true, true, true, true, true, true, true, true, false, false] rfl rfl (one_of HT_.out (by kernel_rfl)) (by decide) (fun K hK => ?_)
                         refine goes_ Tryd.func37 (by kernel_rfl) rfl #[.slice Ao102 y489.length co102] (by rfl) rfl rfl tm_ ?_
                         with_reducible refine (slices_Concat_int_int.calls kj78 _ _ y489 t492 _ ?side1 ?side2 A91.out).mono ?_
                         (case side1 => exact cl_ ((Kd.N_reads' HO491.out).2.2))
                         (case side2 => exact (Kd.N_reads' HO491.out).2.1)
                         rintro e w103 ⟨v493, rfl, ho0, hb⟩
                         refine ⟨_, rfl, ?_⟩
                         have n0_ := a_ (Kd.V_elder' (vl_ HO_3.out) (Kd.R_base ho0) hb)
                         have n1_ := a_ (Kd.V_elder' (vl_ HO480.out) (Kd.R_base ho0) hb)
                         have n2_ := a_ (Kd.V_elder' (vl_ HO488.out) (Kd.R_base ho0) hb)
                         have n3_ := a_ (Kd.N_elder' (by (with_reducible repeat (first | apply Kd.N_alloc | apply Kd.N_drewN | apply Kd.N_drew)); exact HO491.out) (Kd.R_base ho0) hb)
                         have n4_ := a_ (Kd.R_lower (Kd.R_newM (M := fun k_ => (w.heap.size ≤ k_)) ho0 (below_size bl_) (fun k_ h_ => h_)) (below_size bl_))
                         have n5_ := a_ (below_step bl_ hb)
                         clear HO_3
                         clear HO480
                         clear HO488
                         clear HO491
                         clear HB
                         have HO_3 := n0_
                         have HO480 := n1_
                         have HO488 := n2_
                         have HO491 := n3_
                         have HO494 := n4_
                         have HB := n5_
                         clear n0_ n1_ n2_ n3_ n4_ n5_
                         (try clear hb)
                         (try clear hb2)
                         (try clear hk)
                         (try clear hi)
                         (try clear ho0)
                         obtain ⟨Ao104, co104, eo104⟩ := Kd.R_slice HO494.out
                         (first | subst eo104 | (injection eo104 with f1_ f2_ f3_; have f4_ := f1_.symm; have f5_ := f3_.symm; clear f1_ f2_ f3_; subst f4_; subst f5_))
                         refine hK.out _ _ trivial (fun hHeld => ?_)
                         clear hK K
                         refine norm_ (a' := ?_) ?_ ?_
                         rotate_left
                         ·show Act.put _ (some 137) _ = _
                          simp only [Act.put, List.setIfInBounds_toArray, List.set_cons_zero, List.set_cons_succ, i64_w, i32_w]
                          rfl
                         refine one_ (i := 12) (N := some 138) #[true, true, true, true, true, true, true, true, true, true, true, true, true, false] rfl rfl (one_of HT_.out (by kernel_rfl)) (by decide) (fun K hK => ?_)
                         refine goes_ Tryd.func33 (by kernel_rfl) rfl #[.slice (some ad472) l0.length c0, .slice Ao104 t492.length co104] (by rfl) rfl rfl tm_ ?_
                         with_reducible refine (refill_CheckTimes.calls _ _ l0 _ _ t492 t495 _ ?side1 ?side2 ?side3 ?side4 A92.out).mono ?_
                         (case side1 => exact cl_ (Kd.C_below HR0.out HB.out))
                         (case side2 => exact HC0.out)
                         (case side3 => exact cl_ ((Kd.R_reads' HO494.out).2.2))
                         (case side4 => exact (Kd.R_reads' HO494.out).2.1)
                         rintro e w105 ⟨rfl, hb⟩
                         refine ⟨_, rfl, ?_⟩
                         have n0_ := a_ (Kd.V_below (vl_ HO_3.out) hb)
                         have n1_ := a_ (Kd.V_below (vl_ HO480.out) hb)
                         have n2_ := a_ (Kd.V_below (vl_ HO488.out) hb)
                         have n3_ := a_ (Kd.N_below (by (with_reducible repeat (first | apply Kd.N_alloc | apply Kd.N_drewN | apply Kd.N_drew)); exact HO491.out) hb)
                         have n4_ := a_ (Kd.R_below (rl_ HO494.out) hb)
                         have n5_ := a_ (below_step bl_ hb)
                         clear HO_3
                         clear HO480
                         clear HO488
                         clear HO491
                         clear HO494
                         clear HB
                         have HO_3 := n0_
                         have HO480 := n1_
                         have HO488 := n2_
                         have HO491 := n3_
                         have HO494 := n4_
                         have HB := n5_
                         clear n0_ n1_ n2_ n3_ n4_ n5_
                         (try clear hb)
                         (try clear hb2)
                         (try clear hk)
                         (try clear hi)
                         refine hK.out _ _ trivial (fun hHeld => ?_)
                         clear hK K
                         refine norm_ (a' := ?_) ?_ ?_
                         rotate_left
                         ·show Act.put _ (some 138) _ = _
                          simp only [Act.put, List.setIfInBounds_toArray, List.set_cons_zero, List.set_cons_succ, i64_w, i32_w]
                          rfl
                         refine pz_ 13 139 HT_ ?_
                         refine done_ (done_of HT_.out (by kernel_rfl)) ?_
                         try go_wp2
                         go_meet
                         case rel => exact ⟨_, H', ⟨by have := HJ6.out; have := HJ26.out; have := HJ36.out; have := HJ60.out; have := HJ73.out; have := HJ78.out; first | omega | exact Nat.le_refl _⟩, ⟨vl_ (Kd.V_mono HO_3.out (fun _ hk => hk.1.1.1))⟩, ⟨bl_⟩⟩
                        ·rw [if_neg c93] at H
                         have c93b0 : (t495 == 0) = false := beq_eq_false_iff_ne.mpr c93
                         have c93b1 : (t495 != 0) = true := bne_iff_ne.mpr c93
                         exact absurd (H.trans (congrArg some hrt.out)) (by simp)
                       ·rw [if_neg c88] at H
                        exact absurd H (by simp)
                      ·rw [if_neg c87] at H
                       exact absurd H (by simp)
                 ·rw [if_neg c73] at H
                  exact absurd H (by simp)
                ·rw [if_neg c72] at H
                 exact absurd H (by simp)
               ·replace c71 := Bool.eq_false_iff.mpr c71
                subst c71
                have H1 : (waterhourlaw04_RefillWithout.j6 kj60 l0 l1 l3) = some r := by rw [if_neg (show ¬ (false = true) by decide)] at H; exact H
                clear H
                have H := H1
                clear H1
                have H' := a_ H
                clear H
                go_wp2
                go_meet
                case rel => exact ⟨_, H', ⟨by have := HJ6.out; have := HJ26.out; have := HJ36.out; have := HJ60.out; first | omega | exact Nat.le_refl _⟩, ⟨vl_ HO_3.out⟩, ⟨bl_⟩⟩
      ·rw [if_neg c26] at H
       have c26b0 : (t446 == 0) = false := beq_eq_false_iff_ne.mpr c26
       have c26b1 : (t446 != 0) = true := bne_iff_ne.mpr c26
       (first | rw [c26b0] | (simp only [i64_w, i32_w]; rw [c26b0]) | skip)
       have H' := a_ H
       clear H
       go_wp2
       go_meet
       case rel => exact ⟨_, H', ⟨by have := HJ6.out; first | omega | exact Nat.le_refl _⟩, ⟨vl_ (Kd.V_mono HO_3.out (fun _ hk => hk.1))⟩, ⟨bl_⟩⟩
     case rest =>
      clear HC24
      try clear c1
      try clear c2
      try clear p2
      try clear c3
      try clear c4
      try clear p4
      try clear q4
      try clear hx4
      try clear c5
      try clear q5
      try clear c6
      try clear p6
      try clear c7
      try clear c8
      try clear c9
      try clear q9
      try clear c10
      try clear c12
      try clear c18
      try clear c22
      try clear c26
      try clear c26b0
      try clear c26b1
      try clear c29
      try clear c31
      try clear c33
      try clear c35
      try clear c36
      try clear c37
      try clear c38
      try clear c39
      try clear c39b0
      try clear c39b1
      try clear c40
      try clear c40b0
      try clear c40b1
      try clear c41
      try clear c41b0
      try clear c41b1
      try clear c43
      try clear c43b0
      try clear c43b1
      try clear c44
      try clear c44b0
      try clear c44b1
      try clear p46
      try clear q46
      try clear hx46
      try clear p47
      try clear q47
      try clear hx47
      try clear q49
      try clear c50
      try clear q50
      try clear c60
      try clear c62
      try clear c62b0
      try clear c63
      try clear c63b0
      try clear p64
      try clear c65
      try clear c71
      try clear c72
      try clear c72b0
      try clear c73
      try clear c73b0
      try clear c75
      try clear c75b0
      try clear c77
      try clear c77b0
      try clear c78
      try clear c78b0
      try clear c80
      try clear c80b0
      try clear c81
      try clear c81b0
      try clear c83
      try clear c83b0
      try clear c84
      try clear c84b0
      try clear c87
      try clear c87b0
      try clear c87b1
      try clear c88
      try clear c88b0
      try clear c88b1
      try clear c89
      try clear c89b0
      try clear c90
      try clear c90b0
      try clear c93
      try clear c93b0
      try clear c93b1
      try clear q95
      try clear c96
      try clear q96
      try clear hx469_0
      try clear hx469_1
      try clear hx469_2
      try clear hx469_3
      try clear hx472_0
      try clear hx472_1
      try clear hx472_2
      try clear hx472_3
      try clear hx473_0
      try clear hx474_0
      try clear hx475_0
      try clear hx475_1
      try clear hx475_2
      try clear hx475_3
      try clear p2
      try clear p4
      try clear p46
      try clear p469
      try clear p47
      try clear p472
      try clear p473
      try clear p474
      try clear p475
      try clear p6
      try clear p64
      try clear q050
      try clear q096
      try clear q4
      try clear q46
      try clear q469
      try clear q47
      try clear q472
      try clear q473
      try clear q474
      try clear q475
      try clear q49
      try clear q5
      try clear q50
      try clear q95
      try clear q96
      obtain ⟨kq, HA, HJ23, HO_3, HB⟩ := hcut
      cases kq with
      | zero => exact absurd HA.out (by simp [waterhourlaw04_RefillWithout.j6])
      | succ kj23 =>
       have H := HA.out
       clear HA
       simp only [waterhourlaw04_RefillWithout.j6] at H
       replace H := Option.bind_eq_some_iff.mp H
       obtain ⟨⟨t496, t499⟩, A1060, H⟩ := H
       replace H : (if t499 = 0 then (if (l3.length : Int) = (t496.length : Int) then (waterhourlaw04_RefillWithout.j7 kj23 l0 l1 l3 t496 ((t496.length : Int) != (wrap64 ((l0.length : Int) + (l1.length : Int))))) else (waterhourlaw04_RefillWithout.j7 kj23 l0 l1 l3 t496 true)) else (if t499 = 2 then (some ((t496.length : Int) == 0)) else (some false))) = some r := H
       have A106 := a_ A1060
       clear A1060
       by_cases c107 : t499 = 0
       ·rw [if_pos c107] at H
        have c107b0 : (t499 == 0) = true := beq_iff_eq.mpr c107
        have c107b1 : (t499 != 0) = false := bne_eq_false_iff_eq.mpr c107
        clear c107
        have HC108 := a_ H
        clear H
        go_upto_region 22 with (first | ((with_reducible refine gate_callee (f := 39) rfl ?_); refine goesL_ (some 143) rfl rfl Tryd.func39 (by kernel_rfl) rfl #[.slice A0 l0.length c0, .slice A1 l1.length c1] rfl tm_ ?_; (with_reducible refine (refill_Joined.calls kj23 (fun k_ => k_ < w.heap.size) _ _ l0 (fun k_ => k_ < w.heap.size) _ _ l1 t496 t499 _ ?side1 ?side2 A106.out).mono ?_); (case side1 => exact Kd.V_mk HC0.out (Kd.F_below (Kd.C_F k51_heap HR0.out) bl_)); (case side2 => exact Kd.V_mk HC1.out (Kd.F_below (Kd.C_F k51_heap HR1.out) bl_)); rintro e w109 ⟨v497, rfl, ho0, hb⟩; refine ⟨_, rfl, ?_⟩; have n0_ := a_ (Kd.V_elder' (vl_ HO_3.out) (Kd.R_base ho0) hb); have n1_ := a_ (Kd.R_lower (Kd.R_newM (M := fun k_ => (w.heap.size ≤ k_)) (Kd.R_mono (ok' := fun k_ => True) ho0 (fun _ hk_ => trivial)) (below_size bl_) (fun k_ h_ => h_)) (below_size bl_)); have n2_ := a_ (below_step bl_ hb); clear HO_3; clear HB; have HO_3 := n0_; have HO498 := n1_; have HB := n2_; clear n0_ n1_ n2_; (try clear hb); (try clear hb2); (try clear hk); (try clear hi); (try clear ho0)))
        (try simp only [Act.put, List.setIfInBounds_toArray, List.set_cons_zero, List.set_cons_succ])
        go_cut [169] (fun v169 wc => ∃ (kq : Nat) (x169_107 : Bool), v169 = .bool x169_107 ∧ Aside0 (waterhourlaw04_RefillWithout.j7 kq l0 l1 l3 t496 x169_107 = some r) ∧ Aside0 (kq ≤ kj23) ∧ Aside0 (Kd.V (Kd.int .i64) 3 wc w.heap.size (fun k_ => (P3_ k_ ∨ w.heap.size ≤ k_) ∧ some k_ ≠ (v497 : Value).ownBlock) (.slice A3 l3.length c3) l3) ∧ Aside0 (Kd.R k51 51 wc w.heap.size (fun k_ => (w.heap.size ≤ k_)) v497 t496) ∧ Aside0 (Below w.heap.size w wc))
        case first => as_aux_lemma =>
         have H := HC108.out
         clear HC108
         by_cases c110 : (l3.length : Int) = (t496.length : Int)
         ·rw [if_pos c110] at H
          have c110b0 : ((l3.length : Int) == (t496.length : Int)) = true := beq_iff_eq.mpr c110
          have c110b1 : ((l3.length : Int) != (t496.length : Int)) = false := bne_eq_false_iff_eq.mpr c110
          have c110b2 : (l3.length == t496.length) = true := by first | simpa using c110 | (simp at c110 ⊢; omega)
          clear c110
          (first | rw [c110b0] | (simp only [i64_w, i32_w]; rw [c110b0]) | skip)
          have H' := a_ H
          clear H
          obtain ⟨Ao111, co111, eo111⟩ := Kd.R_slice HO498.out
          subst eo111
          go_wp2
          go_meet
          case rel => exact ⟨_, (((t496.length : Int) != (wrap64 ((l0.length : Int) + (l1.length : Int))))), (by first | rfl | (simp; done) | (simp [*]; done)), H', ⟨by have := HJ6.out; have := HJ23.out; first | omega | exact Nat.le_refl _⟩, ⟨vl_ HO_3.out⟩, ⟨rl_ (Kd.R_mono HO498.out (fun _ hk => hk.1))⟩, ⟨bl_⟩⟩
         ·rw [if_neg c110] at H
          have c110b0 : ((l3.length : Int) == (t496.length : Int)) = false := beq_eq_false_iff_ne.mpr c110
          have c110b1 : ((l3.length : Int) != (t496.length : Int)) = true := bne_iff_ne.mpr c110
          have c110b2 : (l3.length == t496.length) = false := by first | simpa using c110 | (simp at c110 ⊢; omega)
          (first | rw [c110b0] | (simp only [i64_w, i32_w]; rw [c110b0]) | skip)
          have H' := a_ H
          clear H
          obtain ⟨Ao112, co112, eo112⟩ := Kd.R_slice HO498.out
          subst eo112
          go_wp2
          go_meet
          case rel => exact ⟨_, (true), (by first | rfl | (simp; done) | (simp [*]; done)), H', ⟨by have := HJ6.out; have := HJ23.out; first | omega | exact Nat.le_refl _⟩, ⟨vl_ HO_3.out⟩, ⟨rl_ (Kd.R_mono HO498.out (fun _ hk => hk.1))⟩, ⟨bl_⟩⟩
        case rest =>
         clear HC108
         try clear c1
         try clear c2
         try clear p2
         try clear c3
         try clear c4
         try clear p4
         try clear q4
         try clear hx4
         try clear c5
         try clear q5
         try clear c6
         try clear p6
         try clear c7
         try clear c8
         try clear c9
         try clear q9
         try clear c10
         try clear c11
         try clear c12
         try clear c18
         try clear c22
         try clear c26
         try clear c26b0
         try clear c26b1
         try clear c29
         try clear c31
         try clear c33
         try clear c35
         try clear c36
         try clear c37
         try clear c38
         try clear c39
         try clear c39b0
         try clear c39b1
         try clear c40
         try clear c40b0
         try clear c40b1
         try clear c41
         try clear c41b0
         try clear c41b1
         try clear c43
         try clear c43b0
         try clear c43b1
         try clear c44
         try clear c44b0
         try clear c44b1
         try clear p46
         try clear q46
         try clear hx46
         try clear p47
         try clear q47
         try clear hx47
         try clear q49
         try clear c50
         try clear q50
         try clear c60
         try clear c62
         try clear c62b0
         try clear c63
         try clear c63b0
         try clear p64
         try clear c65
         try clear c71
         try clear c72
         try clear c72b0
         try clear c73
         try clear c73b0
         try clear c75
         try clear c75b0
         try clear c77
         try clear c77b0
         try clear c78
         try clear c78b0
         try clear c80
         try clear c80b0
         try clear c81
         try clear c81b0
         try clear c83
         try clear c83b0
         try clear c84
         try clear c84b0
         try clear c87
         try clear c87b0
         try clear c87b1
         try clear c88
         try clear c88b0
         try clear c88b1
         try clear c89
         try clear c89b0
         try clear c90
         try clear c90b0
         try clear c93
         try clear c93b0
         try clear c93b1
         try clear q95
         try clear c96
         try clear q96
         try clear c107
         try clear c107b0
         try clear c107b1
         try clear c110
         try clear c110b0
         try clear c110b1
         try clear c110b2
         try clear hx469_0
         try clear hx469_1
         try clear hx469_2
         try clear hx469_3
         try clear hx472_0
         try clear hx472_1
         try clear hx472_2
         try clear hx472_3
         try clear hx473_0
         try clear hx474_0
         try clear hx475_0
         try clear hx475_1
         try clear hx475_2
         try clear hx475_3
         try clear p2
         try clear p4
         try clear p46
         try clear p469
         try clear p47
         try clear p472
         try clear p473
         try clear p474
         try clear p475
         try clear p6
         try clear p64
         try clear q050
         try clear q096
         try clear q4
         try clear q46
         try clear q469
         try clear q47
         try clear q472
         try clear q473
         try clear q474
         try clear q475
         try clear q49
         try clear q5
         try clear q50
         try clear q9
         try clear q95
         try clear q96
         obtain ⟨kq, x169_107, rfl, HA, HJ107, HO_3, HO_12, HB⟩ := hcut
         cases kq with
         | zero => exact absurd HA.out (by simp [waterhourlaw04_RefillWithout.j7])
         | succ kj107 =>
          have H := HA.out
          clear HA
          simp only [waterhourlaw04_RefillWithout.j7] at H
          by_cases c113 : x169_107 = true
          ·subst c113
           have H1 : (some true) = some r := by rw [if_pos rfl] at H; exact H
           clear H
           have H := H1
           clear H1
           obtain rfl := Option.some.inj H
           go_wp2
           go_ret
           exact ⟨by first | rfl | (simp [errW_none, errW_some] <;> rfl) | (simp [*, errW_none, errW_some] <;> rfl), bl_⟩
          ·replace c113 := Bool.eq_false_iff.mpr c113
           subst c113
           have H1 : (if 0 ≤ (l0.length : Int) then (if (l0.length : Int) ≤ (l3.length : Int) then ((refill_CheckTimes.f l0 (l3.take ((l0.length : Int) : Int).toNat)).bind fun t505 => (waterhourlaw04_RefillWithout.l0 kj107 l0 l3 t496 (t505 == 0) l1 (l1.length : Int) 0)) else (none)) else (none)) = some r := by rw [if_neg (show ¬ (false = true) by decide)] at H; exact H
           clear H
           have H := H1
           clear H1
           by_cases c114 : 0 ≤ (l0.length : Int)
           ·rw [if_pos c114] at H
            have c114b0 := eq_true c114
            have c114b1 : decide (0 ≤ (l0.length : Int)) = true := decide_eq_true c114
            clear c114
            by_cases c115 : (l0.length : Int) ≤ (l3.length : Int)
            ·rw [if_pos c115] at H
             have c115b0 := eq_true c115
             have c115b1 : decide ((l0.length : Int) ≤ (l3.length : Int)) = true := decide_eq_true c115
             clear c115
             obtain ⟨y500, hy500⟩ : ∃ y_ : List Int, y_ = (l3.take ((l0.length : Int) : Int).toNat) := ⟨_, rfl⟩
             replace H : ((refill_CheckTimes.f l0 y500).bind fun t505 => (waterhourlaw04_RefillWithout.l0 kj107 l0 l3 t496 (t505 == 0) l1 (l1.length : Int) 0)) = some r := by first | (rw [hy500]; with_reducible exact H) | (have H2_ := (Option.bind_some _ _).symm.trans H; rw [hy500]; with_reducible exact H2_) | (have H2_ := (Option.bind_some _ _).symm.trans H; with_reducible exact H2_) | with_reducible exact H | (rw [hy500]; exact H) | exact H
             have Ny500 := a_ hy500
             clear hy500
             replace H := Option.bind_eq_some_iff.mp H
             obtain ⟨t505, A1160, H⟩ := H
             replace H : (waterhourlaw04_RefillWithout.l0 kj107 l0 l3 t496 (t505 == 0) l1 (l1.length : Int) 0) = some r := H
             have A116 := a_ A1160
             clear A1160
             have H' := a_ H
             clear H
             have q117 : ((l0.length : Int) : Int) ≤ ((l3.length : Int) : Int) := of_decide_eq_true (by first | (with_reducible assumption) | assumption)
             obtain ⟨i0117, hi0117, _, hsz117, _⟩ := info_parts info3
             have hroom117 : l3.length ≤ c3 := (Kd.V_reads' HO_3.out).2.1
             have hC117 : Kd.F (Kd.int .i64) _ _ A3 l3.length l3 := (Kd.V_at (base := w.heap.size) HO_3.out).2.2
             have hcut117 := cutMax.to (P := Tryd.prog) 26 3 .i64 Tryd.underlying26 hi0117 A3 l3.length c3 (l0.length : Int) (of_decide_eq_true (by first | (with_reducible assumption) | assumption)) q117 hroom117
             have hr117 := Kd.F_take (m := ((l0.length : Int) : Int).toNat) hC117 (by omega)
             have hy117 : y500.length = ((l0.length : Int) : Int).toNat := (by rw [Ny500.out, List.length_take]; omega)
             rw [← Ny500.out] at hr117
             rw [← hy117] at hcut117
             have HO504 := a_ (show Kd.V (Kd.int .i64) 3 _ w.heap.size _ (.slice A3 y500.length y500.length) y500 from Kd.V_mk (by omega) hr117)
             have HC504 := a_ (show y500.length ≤ y500.length from by omega)
             clear hr117 hC117 hroom117 hi0117 hsz117
             have KY117 := a_ hy117
             clear hy117
             replace q117 := eq_true q117
             go_wp2_with (first | ((with_reducible refine gate_callee (f := 33) rfl ?_); refine goesL_ (some 177) rfl rfl Tryd.func33 (by kernel_rfl) rfl #[.slice A0 l0.length c0, .slice A3 y500.length y500.length] rfl tm_ ?_; (with_reducible refine (refill_CheckTimes.calls _ _ l0 _ _ y500 t505 _ ?side1 ?side2 ?side3 ?side4 A116.out).mono ?_); (case side1 => exact cl_ (Kd.C_below HR0.out HB.out)); (case side2 => exact HC0.out); (case side3 => exact cl_ ((Kd.V_reads' HO504.out).2.2)); (case side4 => exact (Kd.V_reads' HO504.out).2.1); rintro e w118 ⟨rfl, hb⟩; refine ⟨_, rfl, ?_⟩; have n0_ := a_ (Kd.V_below (vl_ HO_3.out) hb); have n1_ := a_ (Kd.R_below (rl_ HO_12.out) hb); have n2_ := a_ (Kd.V_below (vl_ HO504.out) hb); have n3_ := a_ (below_step bl_ hb); clear HO_3; clear HO_12; clear HO504; clear HB; have HO_3 := n0_; have HO_12 := n1_; have HO504 := n2_; have HB := n3_; clear n0_ n1_ n2_ n3_; (try clear hb); (try clear hb2); (try clear hk); (try clear hi)))
             go_loopg [14, 181] kj107 (fun kq v14 v181 w' => ∃ (x14_4 : Bool) (x181_4 : Int), v14 = .bool x14_4 ∧ v181 = .int .i64 x181_4 ∧ Aside0 (waterhourlaw04_RefillWithout.l0 kq l0 l3 t496 x14_4 l1 (l1.length : Int) x181_4 = some r) ∧ Aside0 (kq ≤ kj107) ∧ Aside0 (Kd.V (Kd.int .i64) 3 w' w.heap.size (fun k_ => (P3_ k_ ∨ w.heap.size ≤ k_) ∧ some k_ ≠ (v497 : Value).ownBlock) (.slice A3 l3.length c3) l3) ∧ Aside0 (Kd.R k51 51 w' w.heap.size (fun k_ => (w.heap.size ≤ k_)) v497 t496) ∧ Aside0 (Below w.heap.size w w'))
             case atStart => exact ⟨((t505 == 0)), (0), (by first | rfl | (simp; done) | (simp [*]; done)), (by first | rfl | (simp; done) | (simp [*]; done)), H', ⟨Nat.le_refl _⟩, ⟨vl_ HO_3.out⟩, ⟨rl_ HO_12.out⟩, ⟨bl_⟩⟩
             case round => as_aux_lemma =>
              clear H'
              try clear c1
              try clear q1
              try clear c2
              try clear p2
              try clear c3
              try clear c4
              try clear p4
              try clear q4
              try clear hx4
              try clear c5
              try clear q5
              try clear c6
              try clear p6
              try clear c7
              try clear c8
              try clear c9
              try clear q9
              try clear c10
              try clear c11
              try clear q11
              try clear c12
              try clear c18
              try clear c22
              try clear c26
              try clear c26b0
              try clear c26b1
              try clear c29
              try clear c31
              try clear c33
              try clear c35
              try clear c36
              try clear c37
              try clear c38
              try clear c39
              try clear c39b0
              try clear c39b1
              try clear c40
              try clear c40b0
              try clear c40b1
              try clear c41
              try clear c41b0
              try clear c41b1
              try clear c43
              try clear c43b0
              try clear c43b1
              try clear c44
              try clear c44b0
              try clear c44b1
              try clear p46
              try clear q46
              try clear hx46
              try clear p47
              try clear q47
              try clear hx47
              try clear q49
              try clear c50
              try clear q50
              try clear c60
              try clear c62
              try clear c62b0
              try clear c63
              try clear c63b0
              try clear p64
              try clear c65
              try clear c71
              try clear c72
              try clear c72b0
              try clear c73
              try clear c73b0
              try clear c75
              try clear c75b0
              try clear c77
              try clear c77b0
              try clear c78
              try clear c78b0
              try clear c80
              try clear c80b0
              try clear c81
              try clear c81b0
              try clear c83
              try clear c83b0
              try clear c84
              try clear c84b0
              try clear c87
              try clear c87b0
              try clear c87b1
              try clear c88
              try clear c88b0
              try clear c88b1
              try clear c89
              try clear c89b0
              try clear c90
              try clear c90b0
              try clear c93
              try clear c93b0
              try clear c93b1
              try clear q95
              try clear c96
              try clear q96
              try clear c107
              try clear c107b0
              try clear c107b1
              try clear c110
              try clear c110b0
              try clear c110b1
              try clear c110b2
              try clear c113
              try clear c114
              try clear c114b0
              try clear c114b1
              try clear c115
              try clear c115b0
              try clear c115b1
              try clear q117
              try clear hx469_0
              try clear hx469_1
              try clear hx469_2
              try clear hx469_3
              try clear hx472_0
              try clear hx472_1
              try clear hx472_2
              try clear hx472_3
              try clear hx473_0
              try clear hx474_0
              try clear hx475_0
              try clear hx475_1
              try clear hx475_2
              try clear hx475_3
              try clear p2
              try clear p4
              try clear p46
              try clear p469
              try clear p47
              try clear p472
              try clear p473
              try clear p474
              try clear p475
              try clear p6
              try clear p64
              try clear q050
              try clear q096
              try clear q117
              try clear q4
              try clear q46
              try clear q469
              try clear q47
              try clear q472
              try clear q473
              try clear q474
              try clear q475
              try clear q49
              try clear q5
              try clear q50
              try clear q9
              try clear q95
              try clear q96
              obtain ⟨x14_4, x181_4, rfl, rfl, HA, HK4, HO_3, HO_12, HB⟩ := hrel
              cases gk with
              | zero => exact absurd HA.out (by simp [waterhourlaw04_RefillWithout.l0])
              | succ k4 =>
               have H := HA.out
               clear HA
               simp only [waterhourlaw04_RefillWithout.l0] at H
               by_cases c119 : x181_4 < (l1.length : Int)
               ·rw [if_pos c119] at H
                have c119b0 : decide (x181_4 < (l1.length : Int)) = true := decide_eq_true c119
                clear c119
                by_cases c120 : 0 ≤ x181_4
                ·rw [if_pos c120] at H
                 have c120b0 : decide (0 ≤ x181_4) = true := decide_eq_true c120
                 clear c120
                 by_cases c121 : x181_4 < (l1.length : Int)
                 ·rw [if_pos c121] at H
                  have c121b0 : decide (x181_4 < (l1.length : Int)) = true := decide_eq_true c121
                  clear c121
                  obtain ⟨ji122, hji122⟩ : ∃ j_ : Int, (wrap64 ((l0.length : Int) + x181_4)) = j_ := ⟨_, rfl⟩
                  replace H : (if 0 ≤ (ji122) then (if (ji122) < (l3.length : Int) then (if 0 ≤ (wrap64 ((ji122) - 1)) then (if (wrap64 ((ji122) - 1)) < (l3.length : Int) then (if x14_4 = true then (if (wrap64 ((rd l3 (ji122)) - (rd l3 (wrap64 ((ji122) - 1))))) ≥ ((rd_T51 l1 x181_4).f0.f0) then (if (wrap64 ((rd l3 (ji122)) - (rd l3 (wrap64 ((ji122) - 1))))) ≤ ((rd_T51 l1 x181_4).f0.f1) then ((waterhourref04_Known.f ((rd_T51 l1 x181_4).f1.f0) ((rd_T51 l1 x181_4).f1.f1)).bind fun t511 => (if t511 = true then (if (rd l3 (ji122)) ≥ ((rd_T51 l1 x181_4).f1.f0) then (waterhourlaw04_RefillWithout.l0 k4 l0 l3 t496 (decide ((rd l3 (ji122)) ≤ ((rd_T51 l1 x181_4).f1.f1))) l1 (l1.length : Int) (wrap64 (x181_4 + 1))) else (waterhourlaw04_RefillWithout.l0 k4 l0 l3 t496 false l1 (l1.length : Int) (wrap64 (x181_4 + 1)))) else (waterhourlaw04_RefillWithout.l0 k4 l0 l3 t496 true l1 (l1.length : Int) (wrap64 (x181_4 + 1))))) else (waterhourlaw04_RefillWithout.l0 k4 l0 l3 t496 false l1 (l1.length : Int) (wrap64 (x181_4 + 1)))) else (waterhourlaw04_RefillWithout.l0 k4 l0 l3 t496 false l1 (l1.length : Int) (wrap64 (x181_4 + 1)))) else (waterhourlaw04_RefillWithout.l0 k4 l0 l3 t496 false l1 (l1.length : Int) (wrap64 (x181_4 + 1)))) else (none)) else (none)) else (none)) else (none)) = some r := by first | (rw [hji122] at H; exact H) | (simp only [hji122] at H ⊢; exact H)
                  have hji122w : (IntKind.i64.wrap ((l0.length : Int) + x181_4)) = ji122 := (i64_w _).trans hji122
                  by_cases c123 : 0 ≤ (ji122)
                  ·rw [if_pos c123] at H
                   have c123b0 : decide (0 ≤ (ji122)) = true := decide_eq_true c123
                   clear c123
                   by_cases c124 : (ji122) < (l3.length : Int)
                   ·rw [if_pos c124] at H
                    have c124b0 : decide ((ji122) < (l3.length : Int)) = true := decide_eq_true c124
                    clear c124
                    obtain ⟨ji125, hji125⟩ : ∃ j_ : Int, (wrap64 ((ji122) - 1)) = j_ := ⟨_, rfl⟩
                    replace H : (if 0 ≤ (ji125) then (if (ji125) < (l3.length : Int) then (if x14_4 = true then (if (wrap64 ((rd l3 (ji122)) - (rd l3 (ji125)))) ≥ ((rd_T51 l1 x181_4).f0.f0) then (if (wrap64 ((rd l3 (ji122)) - (rd l3 (ji125)))) ≤ ((rd_T51 l1 x181_4).f0.f1) then ((waterhourref04_Known.f ((rd_T51 l1 x181_4).f1.f0) ((rd_T51 l1 x181_4).f1.f1)).bind fun t511 => (if t511 = true then (if (rd l3 (ji122)) ≥ ((rd_T51 l1 x181_4).f1.f0) then (waterhourlaw04_RefillWithout.l0 k4 l0 l3 t496 (decide ((rd l3 (ji122)) ≤ ((rd_T51 l1 x181_4).f1.f1))) l1 (l1.length : Int) (wrap64 (x181_4 + 1))) else (waterhourlaw04_RefillWithout.l0 k4 l0 l3 t496 false l1 (l1.length : Int) (wrap64 (x181_4 + 1)))) else (waterhourlaw04_RefillWithout.l0 k4 l0 l3 t496 true l1 (l1.length : Int) (wrap64 (x181_4 + 1))))) else (waterhourlaw04_RefillWithout.l0 k4 l0 l3 t496 false l1 (l1.length : Int) (wrap64 (x181_4 + 1)))) else (waterhourlaw04_RefillWithout.l0 k4 l0 l3 t496 false l1 (l1.length : Int) (wrap64 (x181_4 + 1)))) else (waterhourlaw04_RefillWithout.l0 k4 l0 l3 t496 false l1 (l1.length : Int) (wrap64 (x181_4 + 1)))) else (none)) else (none)) = some r := by first | (rw [hji125] at H; exact H) | (simp only [hji125] at H ⊢; exact H)
                    have hji125w : (IntKind.i64.wrap ((ji122) - 1)) = ji125 := (i64_w _).trans hji125
                    by_cases c126 : 0 ≤ (ji125)
                    ·rw [if_pos c126] at H
                     have c126b0 : decide (0 ≤ (ji125)) = true := decide_eq_true c126
                     clear c126
                     by_cases c127 : (ji125) < (l3.length : Int)
                     ·rw [if_pos c127] at H
                      have c127b0 : decide ((ji125) < (l3.length : Int)) = true := decide_eq_true c127
                      clear c127
                      by_cases c128 : x14_4 = true
                      ·subst c128
                       have H1 : (if (wrap64 ((rd l3 (ji122)) - (rd l3 (ji125)))) ≥ ((rd_T51 l1 x181_4).f0.f0) then (if (wrap64 ((rd l3 (ji122)) - (rd l3 (ji125)))) ≤ ((rd_T51 l1 x181_4).f0.f1) then ((waterhourref04_Known.f ((rd_T51 l1 x181_4).f1.f0) ((rd_T51 l1 x181_4).f1.f1)).bind fun t511 => (if t511 = true then (if (rd l3 (ji122)) ≥ ((rd_T51 l1 x181_4).f1.f0) then (waterhourlaw04_RefillWithout.l0 k4 l0 l3 t496 (decide ((rd l3 (ji122)) ≤ ((rd_T51 l1 x181_4).f1.f1))) l1 (l1.length : Int) (wrap64 (x181_4 + 1))) else (waterhourlaw04_RefillWithout.l0 k4 l0 l3 t496 false l1 (l1.length : Int) (wrap64 (x181_4 + 1)))) else (waterhourlaw04_RefillWithout.l0 k4 l0 l3 t496 true l1 (l1.length : Int) (wrap64 (x181_4 + 1))))) else (waterhourlaw04_RefillWithout.l0 k4 l0 l3 t496 false l1 (l1.length : Int) (wrap64 (x181_4 + 1)))) else (waterhourlaw04_RefillWithout.l0 k4 l0 l3 t496 false l1 (l1.length : Int) (wrap64 (x181_4 + 1)))) = some r := by rw [if_pos rfl] at H; exact H
                       clear H
                       have H := H1
                       clear H1
                       by_cases c129 : (wrap64 ((rd l3 (ji122)) - (rd l3 (ji125)))) ≥ ((rd_T51 l1 x181_4).f0.f0)
                       ·rw [if_pos c129] at H
                        have c129b0 : decide (((rd_T51 l1 x181_4).f0.f0) ≤ (wrap64 ((rd l3 (ji122)) - (rd l3 (ji125))))) = true := decide_eq_true c129
                        clear c129
                        by_cases c130 : (wrap64 ((rd l3 (ji122)) - (rd l3 (ji125)))) ≤ ((rd_T51 l1 x181_4).f0.f1)
                        ·rw [if_pos c130] at H
                         have c130b0 : decide ((wrap64 ((rd l3 (ji122)) - (rd l3 (ji125)))) ≤ ((rd_T51 l1 x181_4).f0.f1)) = true := decide_eq_true c130
                         clear c130
                         replace H := Option.bind_eq_some_iff.mp H
                         obtain ⟨t511, A1310, H⟩ := H
                         replace H : (if t511 = true then (if (rd l3 (ji122)) ≥ ((rd_T51 l1 x181_4).f1.f0) then (waterhourlaw04_RefillWithout.l0 k4 l0 l3 t496 (decide ((rd l3 (ji122)) ≤ ((rd_T51 l1 x181_4).f1.f1))) l1 (l1.length : Int) (wrap64 (x181_4 + 1))) else (waterhourlaw04_RefillWithout.l0 k4 l0 l3 t496 false l1 (l1.length : Int) (wrap64 (x181_4 + 1)))) else (waterhourlaw04_RefillWithout.l0 k4 l0 l3 t496 true l1 (l1.length : Int) (wrap64 (x181_4 + 1)))) = some r := H
                         have A131 := a_ A1310
                         clear A1310
                         by_cases c132 : t511 = true
                         ·subst c132
                          have H1 : (if (rd l3 (ji122)) ≥ ((rd_T51 l1 x181_4).f1.f0) then (waterhourlaw04_RefillWithout.l0 k4 l0 l3 t496 (decide ((rd l3 (ji122)) ≤ ((rd_T51 l1 x181_4).f1.f1))) l1 (l1.length : Int) (wrap64 (x181_4 + 1))) else (waterhourlaw04_RefillWithout.l0 k4 l0 l3 t496 false l1 (l1.length : Int) (wrap64 (x181_4 + 1)))) = some r := by rw [if_pos rfl] at H; exact H
                          clear H
                          have H := H1
                          clear H1
                          by_cases c133 : (rd l3 (ji122)) ≥ ((rd_T51 l1 x181_4).f1.f0)
                          ·rw [if_pos c133] at H
                           have c133b0 : decide (((rd_T51 l1 x181_4).f1.f0) ≤ (rd l3 (ji122))) = true := decide_eq_true c133
                           clear c133
                           have H' := a_ H
                           clear H
                           have p506 : 0 ≤ (x181_4 : Int) := of_decide_eq_true (by first | (with_reducible assumption) | assumption)
                           have q506 : x181_4 < (l1.length : Int) := of_decide_eq_true (by first | (with_reducible assumption) | assumption)
                           obtain ⟨ad506, e506, hx506_0, hx506_1, hx506_2, hx506_3⟩ := at_T51 HR1.out x181_4 p506 q506
                           cases e506
                           replace hx506_0 := (HB.out.cell (World.block_lt_of_cell? w _ hx506_0)).trans hx506_0
                           replace hx506_1 := (HB.out.cell (World.block_lt_of_cell? w _ hx506_1)).trans hx506_1
                           replace hx506_2 := (HB.out.cell (World.block_lt_of_cell? w _ hx506_2)).trans hx506_2
                           replace hx506_3 := (HB.out.cell (World.block_lt_of_cell? w _ hx506_3)).trans hx506_3
                           replace p506 := eq_true p506
                           replace q506 := eq_true q506
                           try go_wp2_with (first | ((with_reducible refine gate_dst (N := 16) rfl ?_); (try (refine gate_guard (by rfl) ?_; dsimp only)); refine box_event ?hg (N := 16) ?hd (cs := #[.int .i64 0, .int .i64 0, .int .i64 0, .int .i64 0]) (t := 51) ?hr ?_; (case hd => rfl); (case hg => rfl); (case hr => first | (go_simp; done) | (go_simp; rfl)); intro gb507 hg w134 hbox hb; have n0_ := a_ (Kd.V_below (Kd.V_elderB (vl_ HO_3.out) gb507 (Nat.le_of_eq hg.symm)) hb); have n1_ := a_ (Kd.R_below (Kd.R_elderB (rl_ HO_12.out) gb507 (Nat.le_of_eq hg.symm)) hb); have n2_ := a_ (below_step bl_ hb); have n3_ := a_ (hbox); have n4_ := a_ ((bz_ (w := w) hg)); have n5_ := a_ ((bz_ (w := w) hg)); clear HO_3; clear HO_12; clear HB; have HO_3 := n0_; have HO_12 := n1_; have HB := n2_; have BK507 := n3_; have GW507 := n4_; have GE507 := n5_; clear n0_ n1_ n2_ n3_ n4_ n5_; clear hb hbox hg; have hcz135_0 : w134.cell? ⟨gb507, 0, none⟩ = some (.int .i64 0) := (blk_cell BK507.out 0).trans rfl; have hcz135_1 : w134.cell? ⟨gb507, 1, none⟩ = some (.int .i64 0) := (blk_cell BK507.out 1).trans rfl; have hcz135_2 : w134.cell? ⟨gb507, 2, none⟩ = some (.int .i64 0) := (blk_cell BK507.out 2).trans rfl; have hcz135_3 : w134.cell? ⟨gb507, 3, none⟩ = some (.int .i64 0) := (blk_cell BK507.out 3).trans rfl; have hfz135_0 := blk_frozen BK507.out 0; have hfz135_1 := blk_frozen BK507.out 1; have hfz135_2 := blk_frozen BK507.out 2; have hfz135_3 := blk_frozen BK507.out 3))
                           have n0_ : Aside0 (Kd.V (Kd.int .i64) 3 ((((w134.setCell ⟨gb507, 0, none⟩ (.int .i64 ((rd_T51 l1 x181_4).f0.f0))).setCell ⟨gb507, 1, none⟩ (.int .i64 ((rd_T51 l1 x181_4).f0.f1))).setCell ⟨gb507, 2, none⟩ (.int .i64 ((rd_T51 l1 x181_4).f1.f0))).setCell ⟨gb507, 3, none⟩ (.int .i64 ((rd_T51 l1 x181_4).f1.f1))) w.heap.size (fun k_ => (P3_ k_ ∨ w.heap.size ≤ k_) ∧ some k_ ≠ (v497 : Value).ownBlock ∧ k_ ≠ gb507) (.slice A3 l3.length c3) l3) := ⟨by (with_reducible repeat (first | apply Kd.V_alloc | apply Kd.V_drewN | apply Kd.V_drew)); exact Kd.V_mono (Kd.V_far (p := ⟨gb507, 3, none⟩) (Kd.V_far (p := ⟨gb507, 2, none⟩) (Kd.V_far (p := ⟨gb507, 1, none⟩) (Kd.V_far (p := ⟨gb507, 0, none⟩) (Kd.V_mono HO_3.out (fun k_ hk => (⟨hk, hk.2⟩ : _ ∧ k_ ≠ gb507))) (fun _ hk => hk.2) (.int .i64 ((rd_T51 l1 x181_4).f0.f0))) (fun _ hk => hk.2) (.int .i64 ((rd_T51 l1 x181_4).f0.f1))) (fun _ hk => hk.2) (.int .i64 ((rd_T51 l1 x181_4).f1.f0))) (fun _ hk => hk.2) (.int .i64 ((rd_T51 l1 x181_4).f1.f1))) (fun _ hk => ⟨hk.1.1.1, ⟨hk.1.1.2, hk.1.2⟩⟩)⟩
                           have n1_ : Aside0 (Kd.R k51 51 ((((w134.setCell ⟨gb507, 0, none⟩ (.int .i64 ((rd_T51 l1 x181_4).f0.f0))).setCell ⟨gb507, 1, none⟩ (.int .i64 ((rd_T51 l1 x181_4).f0.f1))).setCell ⟨gb507, 2, none⟩ (.int .i64 ((rd_T51 l1 x181_4).f1.f0))).setCell ⟨gb507, 3, none⟩ (.int .i64 ((rd_T51 l1 x181_4).f1.f1))) w.heap.size (fun k_ => (w.heap.size ≤ k_) ∧ k_ ≠ gb507) v497 t496) := ⟨by (with_reducible repeat (first | apply Kd.R_alloc | apply Kd.R_drewN | apply Kd.R_drew)); exact Kd.R_mono (Kd.R_far (p := ⟨gb507, 3, none⟩) (Kd.R_far (p := ⟨gb507, 2, none⟩) (Kd.R_far (p := ⟨gb507, 1, none⟩) (Kd.R_far (p := ⟨gb507, 0, none⟩) (Kd.R_mono HO_12.out (fun k_ hk => (⟨hk, hk.2⟩ : _ ∧ k_ ≠ gb507))) (fun _ hk => hk.2) (.int .i64 ((rd_T51 l1 x181_4).f0.f0))) (fun _ hk => hk.2) (.int .i64 ((rd_T51 l1 x181_4).f0.f1))) (fun _ hk => hk.2) (.int .i64 ((rd_T51 l1 x181_4).f1.f0))) (fun _ hk => hk.2) (.int .i64 ((rd_T51 l1 x181_4).f1.f1))) (fun _ hk => ⟨hk.1.1, hk.1.2⟩)⟩
                           have n2_ : Aside0 (((((w134.setCell ⟨gb507, 0, none⟩ (.int .i64 ((rd_T51 l1 x181_4).f0.f0))).setCell ⟨gb507, 1, none⟩ (.int .i64 ((rd_T51 l1 x181_4).f0.f1))).setCell ⟨gb507, 2, none⟩ (.int .i64 ((rd_T51 l1 x181_4).f1.f0))).setCell ⟨gb507, 3, none⟩ (.int .i64 ((rd_T51 l1 x181_4).f1.f1))).heap[gb507]? = some (.cells #[.int .i64 ((rd_T51 l1 x181_4).f0.f0), .int .i64 ((rd_T51 l1 x181_4).f0.f1), .int .i64 ((rd_T51 l1 x181_4).f1.f0), .int .i64 ((rd_T51 l1 x181_4).f1.f1)] 51 (0, 0))) := ⟨by (with_reducible repeat (first | refine blk_drewN ?_ _ | refine blk_drew ?_ | refine blk_alloc ?_ _)); refine blk_put (cs := #[.int .i64 ((rd_T51 l1 x181_4).f0.f0), .int .i64 ((rd_T51 l1 x181_4).f0.f1), .int .i64 ((rd_T51 l1 x181_4).f1.f0), .int .i64 0]) ?_ 3 _ rfl; (with_reducible repeat (first | refine blk_drewN ?_ _ | refine blk_drew ?_ | refine blk_alloc ?_ _)); refine blk_put (cs := #[.int .i64 ((rd_T51 l1 x181_4).f0.f0), .int .i64 ((rd_T51 l1 x181_4).f0.f1), .int .i64 0, .int .i64 0]) ?_ 2 _ rfl; (with_reducible repeat (first | refine blk_drewN ?_ _ | refine blk_drew ?_ | refine blk_alloc ?_ _)); refine blk_put (cs := #[.int .i64 ((rd_T51 l1 x181_4).f0.f0), .int .i64 0, .int .i64 0, .int .i64 0]) ?_ 1 _ rfl; (with_reducible repeat (first | refine blk_drewN ?_ _ | refine blk_drew ?_ | refine blk_alloc ?_ _)); refine blk_put (cs := #[.int .i64 0, .int .i64 0, .int .i64 0, .int .i64 0]) ?_ 0 _ rfl; (with_reducible repeat (first | refine blk_drewN ?_ _ | refine blk_drew ?_ | refine blk_alloc ?_ _)); exact BK507.out⟩
                           have n3_ : Aside0 (Below w.heap.size w ((((w134.setCell ⟨gb507, 0, none⟩ (.int .i64 ((rd_T51 l1 x181_4).f0.f0))).setCell ⟨gb507, 1, none⟩ (.int .i64 ((rd_T51 l1 x181_4).f0.f1))).setCell ⟨gb507, 2, none⟩ (.int .i64 ((rd_T51 l1 x181_4).f1.f0))).setCell ⟨gb507, 3, none⟩ (.int .i64 ((rd_T51 l1 x181_4).f1.f1)))) := ⟨bl_⟩
                           (try clear HO_3)
                           (try clear HO_12)
                           (try clear BK507)
                           (try clear HB)
                           generalize ((((w134.setCell ⟨gb507, 0, none⟩ (.int .i64 ((rd_T51 l1 x181_4).f0.f0))).setCell ⟨gb507, 1, none⟩ (.int .i64 ((rd_T51 l1 x181_4).f0.f1))).setCell ⟨gb507, 2, none⟩ (.int .i64 ((rd_T51 l1 x181_4).f1.f0))).setCell ⟨gb507, 3, none⟩ (.int .i64 ((rd_T51 l1 x181_4).f1.f1))) = w136 at n0_ n1_ n2_ n3_ ⊢
                           have HO_3 := n0_
                           have HO_12 := n1_
                           have BK507 := n2_
                           have HB := n3_
                           clear n0_ n1_ n2_ n3_
                           have n0_ := a_ (Kd.V_drew HO_3.out)
                           have n1_ := a_ (Kd.R_drew HO_12.out)
                           have n2_ := a_ (blk_drew BK507.out)
                           have n3_ := a_ (below_drew1 HB.out)
                           clear HO_3
                           clear HO_12
                           clear BK507
                           clear HB
                           have HO_3 := n0_
                           have HO_12 := n1_
                           have BK507 := n2_
                           have HB := n3_
                           clear n0_ n1_ n2_ n3_
                           have p508 : 0 ≤ ((ji122) : Int) := of_decide_eq_true (by first | (with_reducible assumption) | assumption)
                           have q508 : (ji122) < (l3.length : Int) := of_decide_eq_true (by first | (with_reducible assumption) | assumption)
                           obtain ⟨ad508, e508, hx508_0⟩ := Kd.at_int (Kd.V_reads' HO_3.out).2.2 (ji122) p508 q508
                           cases e508
                           replace p508 := eq_true p508
                           replace q508 := eq_true q508
                           have p509 : 0 ≤ ((ji125) : Int) := of_decide_eq_true (by first | (with_reducible assumption) | assumption)
                           have q509 : (ji125) < (l3.length : Int) := of_decide_eq_true (by first | (with_reducible assumption) | assumption)
                           obtain ⟨ad509, e509, hx509_0⟩ := Kd.at_int (Kd.V_reads' HO_3.out).2.2 (ji125) p509 q509
                           obtain rfl : ad508 = ad509 := (by injection e509)
                           replace p509 := eq_true p509
                           replace q509 := eq_true q509
                           have p510 : 0 ≤ ((ji122) : Int) := of_decide_eq_true (by first | (with_reducible assumption) | assumption)
                           have q510 : (ji122) < (l3.length : Int) := of_decide_eq_true (by first | (with_reducible assumption) | assumption)
                           obtain ⟨ad510, e510, hx510_0⟩ := Kd.at_int (Kd.V_reads' HO_3.out).2.2 (ji122) p510 q510
                           obtain rfl : ad508 = ad510 := (by injection e510)
                           replace p510 := eq_true p510
                           replace q510 := eq_true q510
                           refine start_ (n := 25) (S := fun w' => w'.cell? (ad508.add ((ji122)).toNat) = some (.int .i64 (rd l3 (ji122))) ∧ w'.cell? (ad508.add ((ji125)).toNat) = some (.int .i64 (rd l3 (ji125))) ∧ w'.cell? (ad508.add ((ji122)).toNat) = some (.int .i64 (rd l3 (ji122)))) (ds := []) #[false, false, false, false, false, false, false, false, false, false, false, false, false, false, false, false, false, false, false, false, false, false, false, false, false] (by kernel_rfl) rfl rfl ⟨hx508_0, hx509_0, hx510_0⟩ (fun hHeld => ?_); refine with_tabW waterhourlaw04_RefillWithout.tab28 waterhourlaw04_RefillWithout.bits28 (fun HT_ HW_ => ?_)
                           generalize w136.drew = w137 at HO_3 HO_12 BK507 HB hx508_0 hx509_0 hx510_0 hHeld ⊢
                           refine pz_ 0 186 HT_ ?_
                           refine pz_ 1 187 HT_ ?_
                           refine pz_ 2 188 HT_ ?_
                           refine pz_ 3 189 HT_ ?_
                           refine pz_ 4 190 HT_ ?_
                           refine pz_ 5 191 HT_ ?_
                           refine pz_ 7 193 HT_ ?_
                           refine pz_ 8 194 HT_ ?_
                           refine pz_ 9 195 HT_ ?_
                           refine pz_ 10 196 HT_ ?_
                           refine pz_ 11 197 HT_ ?_
                           refine pz_ 12 198 HT_ ?_
                           refine pz_ 13 199 HT_ ?_
                           refine pz_ 16 202 HT_ ?_
                           refine pz_ 17 203 HT_ ?_
                           refine pz_ 18 204 HT_ ?_
                           refine pz_ 19 205 HT_ ?_
                           refine pz_ 20 206 HT_ ?_
                           refine pz_ 21 207 HT_ ?_
                           refine take_ (i := 6) (N := some 192) (v := ?_) (a' := ?_) #[true, true, true, true, true, true, true, true, true, true, true, true, true, true, false, false, true, true, true, true, true, true, false, false, false] rfl rfl (take_ofW HT_.out HW_.out (by kernel_rfl)) (fun _ _ _ h => h) (Or.inl ⟨by rfl, ?_⟩) hHeld ?_ ?_
                           rotate_left
                           ·rintro w' ⟨s0, s1, s2⟩
                            go_simp
                            with_reducible rfl
                           rotate_left
                           ·simp only [Act.put, List.setIfInBounds_toArray, List.set_cons_zero, List.set_cons_succ, i64_w, i32_w]
                            rfl
                           refine take_ (i := 14) (N := some 200) (v := ?_) (a' := ?_) #[true, true, true, true, true, true, true, true, true, true, true, true, true, true, true, false, true, true, true, true, true, true, false, false, false] rfl rfl (take_ofW HT_.out HW_.out (by kernel_rfl)) (fun _ _ _ h => h) (Or.inl ⟨by rfl, ?_⟩) hHeld ?_ ?_
                           rotate_left
                           ·rintro w' ⟨s0, s1, s2⟩
                            go_simp
                            with_reducible rfl
                           rotate_left
                           ·simp only [Act.put, List.setIfInBounds_toArray, List.set_cons_zero, List.set_cons_succ, i64_w, i32_w]
                            rfl
                           refine pz_ 15 201 HT_ ?_
                           refine pz_ 23 17 HT_ ?_
                           refine take_ (i := 22) (N := some 208) (v := ?_) (a' := ?_) #[true, true, true, true, true, true, true, true, true, true, true, true, true, true, true, true, true, true, true, true, true, true, true, true, false] rfl rfl (take_ofW HT_.out HW_.out (by kernel_rfl)) (fun _ _ _ h => h) (Or.inl ⟨by rfl, ?_⟩) hHeld ?_ ?_
                           rotate_left
                           ·rintro w' ⟨s0, s1, s2⟩
                            go_simp
                            with_reducible rfl
                           rotate_left
                           ·simp only [Act.put, List.setIfInBounds_toArray, List.set_cons_zero, List.set_cons_succ, i64_w, i32_w]
                            rfl
                           refine pz_ 24 18 HT_ ?_
                           refine done_ (done_of HT_.out (by kernel_rfl)) ?_
                           have hcz138_0 : w137.cell? ⟨gb507, 0, none⟩ = some (.int .i64 ((rd_T51 l1 x181_4).f0.f0)) := (blk_cell BK507.out 0).trans rfl
                           have hcz138_1 : w137.cell? ⟨gb507, 1, none⟩ = some (.int .i64 ((rd_T51 l1 x181_4).f0.f1)) := (blk_cell BK507.out 1).trans rfl
                           have hcz138_2 : w137.cell? ⟨gb507, 2, none⟩ = some (.int .i64 ((rd_T51 l1 x181_4).f1.f0)) := (blk_cell BK507.out 2).trans rfl
                           have hcz138_3 : w137.cell? ⟨gb507, 3, none⟩ = some (.int .i64 ((rd_T51 l1 x181_4).f1.f1)) := (blk_cell BK507.out 3).trans rfl
                           have hfz138_0 := blk_frozen BK507.out 0
                           have hfz138_1 := blk_frozen BK507.out 1
                           have hfz138_2 := blk_frozen BK507.out 2
                           have hfz138_3 := blk_frozen BK507.out 3
                           try go_wp2_with (first | (go_at_call 38; (with_reducible refine (waterhourref04_Known.calls ((rd_T51 l1 x181_4).f1.f0) ((rd_T51 l1 x181_4).f1.f1) true _ A131.out).mono ?_); rintro e w139 ⟨rfl, hb⟩; have n0_ := a_ (Kd.V_below (vl_ HO_3.out) hb); have n1_ := a_ (Kd.R_below (rl_ HO_12.out) hb); have n2_ := a_ (bb_ BK507.out hb); have n3_ := a_ (below_step bl_ hb); clear HO_3; clear HO_12; clear BK507; clear HB; have HO_3 := n0_; have HO_12 := n1_; have BK507 := n2_; have HB := n3_; clear n0_ n1_ n2_ n3_; (try clear hb); (try clear hb2); (try clear hk); (try clear hi); have hcz140_0 : w139.cell? ⟨gb507, 0, none⟩ = some (.int .i64 ((rd_T51 l1 x181_4).f0.f0)) := (blk_cell BK507.out 0).trans rfl; have hcz140_1 : w139.cell? ⟨gb507, 1, none⟩ = some (.int .i64 ((rd_T51 l1 x181_4).f0.f1)) := (blk_cell BK507.out 1).trans rfl; have hcz140_2 : w139.cell? ⟨gb507, 2, none⟩ = some (.int .i64 ((rd_T51 l1 x181_4).f1.f0)) := (blk_cell BK507.out 2).trans rfl; have hcz140_3 : w139.cell? ⟨gb507, 3, none⟩ = some (.int .i64 ((rd_T51 l1 x181_4).f1.f1)) := (blk_cell BK507.out 3).trans rfl; have hfz140_0 := blk_frozen BK507.out 0; have hfz140_1 := blk_frozen BK507.out 1; have hfz140_2 := blk_frozen BK507.out 2; have hfz140_3 := blk_frozen BK507.out 3))
                           go_roundg k4
                           case measure => have := HJ6.out; have := HJ23.out; have := HJ107.out; have := HK4.out; omega
                           case rel => exact ⟨(decide ((rd l3 (ji122)) ≤ ((rd_T51 l1 x181_4).f1.f1))), (wrap64 (x181_4 + 1)), (by first | rfl | (simp; done) | (simp only [← hji122] <;> (first | rfl | simp)) | (simp [*]; done)), (by first | rfl | (simp; done) | (simp [*]; done)), H', ⟨by have := HJ6.out; have := HJ23.out; have := HJ107.out; have := HK4.out; omega⟩, ⟨by (with_reducible repeat (first | apply Kd.V_alloc | apply Kd.V_drewN | apply Kd.V_drew)); exact Kd.V_mono HO_3.out (fun _ hk => ⟨hk.1, hk.2.1⟩)⟩, ⟨rl_ (Kd.R_mono HO_12.out (fun _ hk => hk.1))⟩, ⟨bl_⟩⟩
                          ·rw [if_neg c133] at H
                           have c133b0 : decide (((rd_T51 l1 x181_4).f1.f0) ≤ (rd l3 (ji122))) = false := decide_eq_false c133
                           clear c133
                           have H' := a_ H
                           clear H
                           have p506 : 0 ≤ (x181_4 : Int) := of_decide_eq_true (by first | (with_reducible assumption) | assumption)
                           have q506 : x181_4 < (l1.length : Int) := of_decide_eq_true (by first | (with_reducible assumption) | assumption)
                           obtain ⟨ad506, e506, hx506_0, hx506_1, hx506_2, hx506_3⟩ := at_T51 HR1.out x181_4 p506 q506
                           cases e506
                           replace hx506_0 := (HB.out.cell (World.block_lt_of_cell? w _ hx506_0)).trans hx506_0
                           replace hx506_1 := (HB.out.cell (World.block_lt_of_cell? w _ hx506_1)).trans hx506_1
                           replace hx506_2 := (HB.out.cell (World.block_lt_of_cell? w _ hx506_2)).trans hx506_2
                           replace hx506_3 := (HB.out.cell (World.block_lt_of_cell? w _ hx506_3)).trans hx506_3
                           replace p506 := eq_true p506
                           replace q506 := eq_true q506
                           try go_wp2_with (first | ((with_reducible refine gate_dst (N := 16) rfl ?_); (try (refine gate_guard (by rfl) ?_; dsimp only)); refine box_event ?hg (N := 16) ?hd (cs := #[.int .i64 0, .int .i64 0, .int .i64 0, .int .i64 0]) (t := 51) ?hr ?_; (case hd => rfl); (case hg => rfl); (case hr => first | (go_simp; done) | (go_simp; rfl)); intro gb507 hg w141 hbox hb; have n0_ := a_ (Kd.V_below (Kd.V_elderB (vl_ HO_3.out) gb507 (Nat.le_of_eq hg.symm)) hb); have n1_ := a_ (Kd.R_below (Kd.R_elderB (rl_ HO_12.out) gb507 (Nat.le_of_eq hg.symm)) hb); have n2_ := a_ (below_step bl_ hb); have n3_ := a_ (hbox); have n4_ := a_ ((bz_ (w := w) hg)); have n5_ := a_ ((bz_ (w := w) hg)); clear HO_3; clear HO_12; clear HB; have HO_3 := n0_; have HO_12 := n1_; have HB := n2_; have BK507 := n3_; have GW507 := n4_; have GE507 := n5_; clear n0_ n1_ n2_ n3_ n4_ n5_; clear hb hbox hg; have hcz142_0 : w141.cell? ⟨gb507, 0, none⟩ = some (.int .i64 0) := (blk_cell BK507.out 0).trans rfl; have hcz142_1 : w141.cell? ⟨gb507, 1, none⟩ = some (.int .i64 0) := (blk_cell BK507.out 1).trans rfl; have hcz142_2 : w141.cell? ⟨gb507, 2, none⟩ = some (.int .i64 0) := (blk_cell BK507.out 2).trans rfl; have hcz142_3 : w141.cell? ⟨gb507, 3, none⟩ = some (.int .i64 0) := (blk_cell BK507.out 3).trans rfl; have hfz142_0 := blk_frozen BK507.out 0; have hfz142_1 := blk_frozen BK507.out 1; have hfz142_2 := blk_frozen BK507.out 2; have hfz142_3 := blk_frozen BK507.out 3))
                           have n0_ : Aside0 (Kd.V (Kd.int .i64) 3 ((((w141.setCell ⟨gb507, 0, none⟩ (.int .i64 ((rd_T51 l1 x181_4).f0.f0))).setCell ⟨gb507, 1, none⟩ (.int .i64 ((rd_T51 l1 x181_4).f0.f1))).setCell ⟨gb507, 2, none⟩ (.int .i64 ((rd_T51 l1 x181_4).f1.f0))).setCell ⟨gb507, 3, none⟩ (.int .i64 ((rd_T51 l1 x181_4).f1.f1))) w.heap.size (fun k_ => (P3_ k_ ∨ w.heap.size ≤ k_) ∧ some k_ ≠ (v497 : Value).ownBlock ∧ k_ ≠ gb507) (.slice A3 l3.length c3) l3) := ⟨by (with_reducible repeat (first | apply Kd.V_alloc | apply Kd.V_drewN | apply Kd.V_drew)); exact Kd.V_mono (Kd.V_far (p := ⟨gb507, 3, none⟩) (Kd.V_far (p := ⟨gb507, 2, none⟩) (Kd.V_far (p := ⟨gb507, 1, none⟩) (Kd.V_far (p := ⟨gb507, 0, none⟩) (Kd.V_mono HO_3.out (fun k_ hk => (⟨hk, hk.2⟩ : _ ∧ k_ ≠ gb507))) (fun _ hk => hk.2) (.int .i64 ((rd_T51 l1 x181_4).f0.f0))) (fun _ hk => hk.2) (.int .i64 ((rd_T51 l1 x181_4).f0.f1))) (fun _ hk => hk.2) (.int .i64 ((rd_T51 l1 x181_4).f1.f0))) (fun _ hk => hk.2) (.int .i64 ((rd_T51 l1 x181_4).f1.f1))) (fun _ hk => ⟨hk.1.1.1, ⟨hk.1.1.2, hk.1.2⟩⟩)⟩
                           have n1_ : Aside0 (Kd.R k51 51 ((((w141.setCell ⟨gb507, 0, none⟩ (.int .i64 ((rd_T51 l1 x181_4).f0.f0))).setCell ⟨gb507, 1, none⟩ (.int .i64 ((rd_T51 l1 x181_4).f0.f1))).setCell ⟨gb507, 2, none⟩ (.int .i64 ((rd_T51 l1 x181_4).f1.f0))).setCell ⟨gb507, 3, none⟩ (.int .i64 ((rd_T51 l1 x181_4).f1.f1))) w.heap.size (fun k_ => (w.heap.size ≤ k_) ∧ k_ ≠ gb507) v497 t496) := ⟨by (with_reducible repeat (first | apply Kd.R_alloc | apply Kd.R_drewN | apply Kd.R_drew)); exact Kd.R_mono (Kd.R_far (p := ⟨gb507, 3, none⟩) (Kd.R_far (p := ⟨gb507, 2, none⟩) (Kd.R_far (p := ⟨gb507, 1, none⟩) (Kd.R_far (p := ⟨gb507, 0, none⟩) (Kd.R_mono HO_12.out (fun k_ hk => (⟨hk, hk.2⟩ : _ ∧ k_ ≠ gb507))) (fun _ hk => hk.2) (.int .i64 ((rd_T51 l1 x181_4).f0.f0))) (fun _ hk => hk.2) (.int .i64 ((rd_T51 l1 x181_4).f0.f1))) (fun _ hk => hk.2) (.int .i64 ((rd_T51 l1 x181_4).f1.f0))) (fun _ hk => hk.2) (.int .i64 ((rd_T51 l1 x181_4).f1.f1))) (fun _ hk => ⟨hk.1.1, hk.1.2⟩)⟩
                           have n2_ : Aside0 (((((w141.setCell ⟨gb507, 0, none⟩ (.int .i64 ((rd_T51 l1 x181_4).f0.f0))).setCell ⟨gb507, 1, none⟩ (.int .i64 ((rd_T51 l1 x181_4).f0.f1))).setCell ⟨gb507, 2, none⟩ (.int .i64 ((rd_T51 l1 x181_4).f1.f0))).setCell ⟨gb507, 3, none⟩ (.int .i64 ((rd_T51 l1 x181_4).f1.f1))).heap[gb507]? = some (.cells #[.int .i64 ((rd_T51 l1 x181_4).f0.f0), .int .i64 ((rd_T51 l1 x181_4).f0.f1), .int .i64 ((rd_T51 l1 x181_4).f1.f0), .int .i64 ((rd_T51 l1 x181_4).f1.f1)] 51 (0, 0))) := ⟨by (with_reducible repeat (first | refine blk_drewN ?_ _ | refine blk_drew ?_ | refine blk_alloc ?_ _)); refine blk_put (cs := #[.int .i64 ((rd_T51 l1 x181_4).f0.f0), .int .i64 ((rd_T51 l1 x181_4).f0.f1), .int .i64 ((rd_T51 l1 x181_4).f1.f0), .int .i64 0]) ?_ 3 _ rfl; (with_reducible repeat (first | refine blk_drewN ?_ _ | refine blk_drew ?_ | refine blk_alloc ?_ _)); refine blk_put (cs := #[.int .i64 ((rd_T51 l1 x181_4).f0.f0), .int .i64 ((rd_T51 l1 x181_4).f0.f1), .int .i64 0, .int .i64 0]) ?_ 2 _ rfl; (with_reducible repeat (first | refine blk_drewN ?_ _ | refine blk_drew ?_ | refine blk_alloc ?_ _)); refine blk_put (cs := #[.int .i64 ((rd_T51 l1 x181_4).f0.f0), .int .i64 0, .int .i64 0, .int .i64 0]) ?_ 1 _ rfl; (with_reducible repeat (first | refine blk_drewN ?_ _ | refine blk_drew ?_ | refine blk_alloc ?_ _)); refine blk_put (cs := #[.int .i64 0, .int .i64 0, .int .i64 0, .int .i64 0]) ?_ 0 _ rfl; (with_reducible repeat (first | refine blk_drewN ?_ _ | refine blk_drew ?_ | refine blk_alloc ?_ _)); exact BK507.out⟩
                           have n3_ : Aside0 (Below w.heap.size w ((((w141.setCell ⟨gb507, 0, none⟩ (.int .i64 ((rd_T51 l1 x181_4).f0.f0))).setCell ⟨gb507, 1, none⟩ (.int .i64 ((rd_T51 l1 x181_4).f0.f1))).setCell ⟨gb507, 2, none⟩ (.int .i64 ((rd_T51 l1 x181_4).f1.f0))).setCell ⟨gb507, 3, none⟩ (.int .i64 ((rd_T51 l1 x181_4).f1.f1)))) := ⟨bl_⟩
                           (try clear HO_3)
                           (try clear HO_12)
                           (try clear BK507)
                           (try clear HB)
                           generalize ((((w141.setCell ⟨gb507, 0, none⟩ (.int .i64 ((rd_T51 l1 x181_4).f0.f0))).setCell ⟨gb507, 1, none⟩ (.int .i64 ((rd_T51 l1 x181_4).f0.f1))).setCell ⟨gb507, 2, none⟩ (.int .i64 ((rd_T51 l1 x181_4).f1.f0))).setCell ⟨gb507, 3, none⟩ (.int .i64 ((rd_T51 l1 x181_4).f1.f1))) = w143 at n0_ n1_ n2_ n3_ ⊢
                           have HO_3 := n0_
                           have HO_12 := n1_
                           have BK507 := n2_
                           have HB := n3_
                           clear n0_ n1_ n2_ n3_
                           have n0_ := a_ (Kd.V_drew HO_3.out)
                           have n1_ := a_ (Kd.R_drew HO_12.out)
                           have n2_ := a_ (blk_drew BK507.out)
                           have n3_ := a_ (below_drew1 HB.out)
                           clear HO_3
                           clear HO_12
                           clear BK507
                           clear HB
                           have HO_3 := n0_
                           have HO_12 := n1_
                           have BK507 := n2_
                           have HB := n3_
                           clear n0_ n1_ n2_ n3_
                           have p508 : 0 ≤ ((ji122) : Int) := of_decide_eq_true (by first | (with_reducible assumption) | assumption)
                           have q508 : (ji122) < (l3.length : Int) := of_decide_eq_true (by first | (with_reducible assumption) | assumption)
                           obtain ⟨ad508, e508, hx508_0⟩ := Kd.at_int (Kd.V_reads' HO_3.out).2.2 (ji122) p508 q508
                           cases e508
                           replace p508 := eq_true p508
                           replace q508 := eq_true q508
                           have p509 : 0 ≤ ((ji125) : Int) := of_decide_eq_true (by first | (with_reducible assumption) | assumption)
                           have q509 : (ji125) < (l3.length : Int) := of_decide_eq_true (by first | (with_reducible assumption) | assumption)
                           obtain ⟨ad509, e509, hx509_0⟩ := Kd.at_int (Kd.V_reads' HO_3.out).2.2 (ji125) p509 q509
                           obtain rfl : ad508 = ad509 := (by injection e509)
                           replace p509 := eq_true p509
                           replace q509 := eq_true q509
                           have p510 : 0 ≤ ((ji122) : Int) := of_decide_eq_true (by first | (with_reducible assumption) | assumption)
                           have q510 : (ji122) < (l3.length : Int) := of_decide_eq_true (by first | (with_reducible assumption) | assumption)
                           obtain ⟨ad510, e510, hx510_0⟩ := Kd.at_int (Kd.V_reads' HO_3.out).2.2 (ji122) p510 q510
                           obtain rfl : ad508 = ad510 := (by injection e510)
                           replace p510 := eq_true p510
                           replace q510 := eq_true q510
                           refine start_ (n := 25) (S := fun w' => w'.cell? (ad508.add ((ji122)).toNat) = some (.int .i64 (rd l3 (ji122))) ∧ w'.cell? (ad508.add ((ji125)).toNat) = some (.int .i64 (rd l3 (ji125))) ∧ w'.cell? (ad508.add ((ji122)).toNat) = some (.int .i64 (rd l3 (ji122)))) (ds := []) #[false, false, false, false, false, false, false, false, false, false, false, false, false, false, false, false, false, false, false, false, false, false, false, false, false] (by kernel_rfl) rfl rfl ⟨hx508_0, hx509_0, hx510_0⟩ (fun hHeld => ?_); refine with_tabW waterhourlaw04_RefillWithout.tab28 waterhourlaw04_RefillWithout.bits28 (fun HT_ HW_ => ?_)
                           generalize w143.drew = w144 at HO_3 HO_12 BK507 HB hx508_0 hx509_0 hx510_0 hHeld ⊢
                           refine pz_ 0 186 HT_ ?_
                           refine pz_ 1 187 HT_ ?_
                           refine pz_ 2 188 HT_ ?_
                           refine pz_ 3 189 HT_ ?_
                           refine pz_ 4 190 HT_ ?_
                           refine pz_ 5 191 HT_ ?_
                           refine pz_ 7 193 HT_ ?_
                           refine pz_ 8 194 HT_ ?_
                           refine pz_ 9 195 HT_ ?_
                           refine pz_ 10 196 HT_ ?_
                           refine pz_ 11 197 HT_ ?_
                           refine pz_ 12 198 HT_ ?_
                           refine pz_ 13 199 HT_ ?_
                           refine pz_ 16 202 HT_ ?_
                           refine pz_ 17 203 HT_ ?_
                           refine pz_ 18 204 HT_ ?_
                           refine pz_ 19 205 HT_ ?_
                           refine pz_ 20 206 HT_ ?_
                           refine pz_ 21 207 HT_ ?_
                           refine take_ (i := 6) (N := some 192) (v := ?_) (a' := ?_) #[true, true, true, true, true, true, true, true, true, true, true, true, true, true, false, false, true, true, true, true, true, true, false, false, false] rfl rfl (take_ofW HT_.out HW_.out (by kernel_rfl)) (fun _ _ _ h => h) (Or.inl ⟨by rfl, ?_⟩) hHeld ?_ ?_
                           rotate_left
                           ·rintro w' ⟨s0, s1, s2⟩
                            go_simp
                            with_reducible rfl
                           rotate_left
                           ·simp only [Act.put, List.setIfInBounds_toArray, List.set_cons_zero, List.set_cons_succ, i64_w, i32_w]
                            rfl
                           refine take_ (i := 14) (N := some 200) (v := ?_) (a' := ?_) #[true, true, true, true, true, true, true, true, true, true, true, true, true, true, true, false, true, true, true, true, true, true, false, false, false] rfl rfl (take_ofW HT_.out HW_.out (by kernel_rfl)) (fun _ _ _ h => h) (Or.inl ⟨by rfl, ?_⟩) hHeld ?_ ?_
                           rotate_left
                           ·rintro w' ⟨s0, s1, s2⟩
                            go_simp
                            with_reducible rfl
                           rotate_left
                           ·simp only [Act.put, List.setIfInBounds_toArray, List.set_cons_zero, List.set_cons_succ, i64_w, i32_w]
                            rfl
                           refine pz_ 15 201 HT_ ?_
                           refine pz_ 23 17 HT_ ?_
                           refine take_ (i := 22) (N := some 208) (v := ?_) (a' := ?_) #[true, true, true, true, true, true, true, true, true, true, true, true, true, true, true, true, true, true, true, true, true, true, true, true, false] rfl rfl (take_ofW HT_.out HW_.out (by kernel_rfl)) (fun _ _ _ h => h) (Or.inl ⟨by rfl, ?_⟩) hHeld ?_ ?_
                           rotate_left
                           ·rintro w' ⟨s0, s1, s2⟩
                            go_simp
                            with_reducible rfl
                           rotate_left
                           ·simp only [Act.put, List.setIfInBounds_toArray, List.set_cons_zero, List.set_cons_succ, i64_w, i32_w]
                            rfl
                           refine pz_ 24 18 HT_ ?_
                           refine done_ (done_of HT_.out (by kernel_rfl)) ?_
                           have hcz145_0 : w144.cell? ⟨gb507, 0, none⟩ = some (.int .i64 ((rd_T51 l1 x181_4).f0.f0)) := (blk_cell BK507.out 0).trans rfl
                           have hcz145_1 : w144.cell? ⟨gb507, 1, none⟩ = some (.int .i64 ((rd_T51 l1 x181_4).f0.f1)) := (blk_cell BK507.out 1).trans rfl
                           have hcz145_2 : w144.cell? ⟨gb507, 2, none⟩ = some (.int .i64 ((rd_T51 l1 x181_4).f1.f0)) := (blk_cell BK507.out 2).trans rfl
                           have hcz145_3 : w144.cell? ⟨gb507, 3, none⟩ = some (.int .i64 ((rd_T51 l1 x181_4).f1.f1)) := (blk_cell BK507.out 3).trans rfl
                           have hfz145_0 := blk_frozen BK507.out 0
                           have hfz145_1 := blk_frozen BK507.out 1
                           have hfz145_2 := blk_frozen BK507.out 2
                           have hfz145_3 := blk_frozen BK507.out 3
                           try go_wp2_with (first | (go_at_call 38; (with_reducible refine (waterhourref04_Known.calls ((rd_T51 l1 x181_4).f1.f0) ((rd_T51 l1 x181_4).f1.f1) true _ A131.out).mono ?_); rintro e w146 ⟨rfl, hb⟩; have n0_ := a_ (Kd.V_below (vl_ HO_3.out) hb); have n1_ := a_ (Kd.R_below (rl_ HO_12.out) hb); have n2_ := a_ (bb_ BK507.out hb); have n3_ := a_ (below_step bl_ hb); clear HO_3; clear HO_12; clear BK507; clear HB; have HO_3 := n0_; have HO_12 := n1_; have BK507 := n2_; have HB := n3_; clear n0_ n1_ n2_ n3_; (try clear hb); (try clear hb2); (try clear hk); (try clear hi); have hcz147_0 : w146.cell? ⟨gb507, 0, none⟩ = some (.int .i64 ((rd_T51 l1 x181_4).f0.f0)) := (blk_cell BK507.out 0).trans rfl; have hcz147_1 : w146.cell? ⟨gb507, 1, none⟩ = some (.int .i64 ((rd_T51 l1 x181_4).f0.f1)) := (blk_cell BK507.out 1).trans rfl; have hcz147_2 : w146.cell? ⟨gb507, 2, none⟩ = some (.int .i64 ((rd_T51 l1 x181_4).f1.f0)) := (blk_cell BK507.out 2).trans rfl; have hcz147_3 : w146.cell? ⟨gb507, 3, none⟩ = some (.int .i64 ((rd_T51 l1 x181_4).f1.f1)) := (blk_cell BK507.out 3).trans rfl; have hfz147_0 := blk_frozen BK507.out 0; have hfz147_1 := blk_frozen BK507.out 1; have hfz147_2 := blk_frozen BK507.out 2; have hfz147_3 := blk_frozen BK507.out 3))
                           go_roundg k4
                           case measure => have := HJ6.out; have := HJ23.out; have := HJ107.out; have := HK4.out; omega
                           case rel => exact ⟨(false), (wrap64 (x181_4 + 1)), (by first | rfl | (simp; done) | (simp [*]; done)), (by first | rfl | (simp; done) | (simp [*]; done)), H', ⟨by have := HJ6.out; have := HJ23.out; have := HJ107.out; have := HK4.out; omega⟩, ⟨by (with_reducible repeat (first | apply Kd.V_alloc | apply Kd.V_drewN | apply Kd.V_drew)); exact Kd.V_mono HO_3.out (fun _ hk => ⟨hk.1, hk.2.1⟩)⟩, ⟨rl_ (Kd.R_mono HO_12.out (fun _ hk => hk.1))⟩, ⟨bl_⟩⟩
                         ·replace c132 := Bool.eq_false_iff.mpr c132
                          subst c132
                          have H1 : (waterhourlaw04_RefillWithout.l0 k4 l0 l3 t496 true l1 (l1.length : Int) (wrap64 (x181_4 + 1))) = some r := by rw [if_neg (show ¬ (false = true) by decide)] at H; exact H
                          clear H
                          have H := H1
                          clear H1
                          have H' := a_ H
                          clear H
                          have p506 : 0 ≤ (x181_4 : Int) := of_decide_eq_true (by first | (with_reducible assumption) | assumption)
                          have q506 : x181_4 < (l1.length : Int) := of_decide_eq_true (by first | (with_reducible assumption) | assumption)
                          obtain ⟨ad506, e506, hx506_0, hx506_1, hx506_2, hx506_3⟩ := at_T51 HR1.out x181_4 p506 q506
                          cases e506
                          replace hx506_0 := (HB.out.cell (World.block_lt_of_cell? w _ hx506_0)).trans hx506_0
                          replace hx506_1 := (HB.out.cell (World.block_lt_of_cell? w _ hx506_1)).trans hx506_1
                          replace hx506_2 := (HB.out.cell (World.block_lt_of_cell? w _ hx506_2)).trans hx506_2
                          replace hx506_3 := (HB.out.cell (World.block_lt_of_cell? w _ hx506_3)).trans hx506_3
                          replace p506 := eq_true p506
                          replace q506 := eq_true q506
                          try go_wp2_with (first | ((with_reducible refine gate_dst (N := 16) rfl ?_); (try (refine gate_guard (by rfl) ?_; dsimp only)); refine box_event ?hg (N := 16) ?hd (cs := #[.int .i64 0, .int .i64 0, .int .i64 0, .int .i64 0]) (t := 51) ?hr ?_; (case hd => rfl); (case hg => rfl); (case hr => first | (go_simp; done) | (go_simp; rfl)); intro gb507 hg w148 hbox hb; have n0_ := a_ (Kd.V_below (Kd.V_elderB (vl_ HO_3.out) gb507 (Nat.le_of_eq hg.symm)) hb); have n1_ := a_ (Kd.R_below (Kd.R_elderB (rl_ HO_12.out) gb507 (Nat.le_of_eq hg.symm)) hb); have n2_ := a_ (below_step bl_ hb); have n3_ := a_ (hbox); have n4_ := a_ ((bz_ (w := w) hg)); have n5_ := a_ ((bz_ (w := w) hg)); clear HO_3; clear HO_12; clear HB; have HO_3 := n0_; have HO_12 := n1_; have HB := n2_; have BK507 := n3_; have GW507 := n4_; have GE507 := n5_; clear n0_ n1_ n2_ n3_ n4_ n5_; clear hb hbox hg; have hcz149_0 : w148.cell? ⟨gb507, 0, none⟩ = some (.int .i64 0) := (blk_cell BK507.out 0).trans rfl; have hcz149_1 : w148.cell? ⟨gb507, 1, none⟩ = some (.int .i64 0) := (blk_cell BK507.out 1).trans rfl; have hcz149_2 : w148.cell? ⟨gb507, 2, none⟩ = some (.int .i64 0) := (blk_cell BK507.out 2).trans rfl; have hcz149_3 : w148.cell? ⟨gb507, 3, none⟩ = some (.int .i64 0) := (blk_cell BK507.out 3).trans rfl; have hfz149_0 := blk_frozen BK507.out 0; have hfz149_1 := blk_frozen BK507.out 1; have hfz149_2 := blk_frozen BK507.out 2; have hfz149_3 := blk_frozen BK507.out 3))
                          have n0_ : Aside0 (Kd.V (Kd.int .i64) 3 ((((w148.setCell ⟨gb507, 0, none⟩ (.int .i64 ((rd_T51 l1 x181_4).f0.f0))).setCell ⟨gb507, 1, none⟩ (.int .i64 ((rd_T51 l1 x181_4).f0.f1))).setCell ⟨gb507, 2, none⟩ (.int .i64 ((rd_T51 l1 x181_4).f1.f0))).setCell ⟨gb507, 3, none⟩ (.int .i64 ((rd_T51 l1 x181_4).f1.f1))) w.heap.size (fun k_ => (P3_ k_ ∨ w.heap.size ≤ k_) ∧ some k_ ≠ (v497 : Value).ownBlock ∧ k_ ≠ gb507) (.slice A3 l3.length c3) l3) := ⟨by (with_reducible repeat (first | apply Kd.V_alloc | apply Kd.V_drewN | apply Kd.V_drew)); exact Kd.V_mono (Kd.V_far (p := ⟨gb507, 3, none⟩) (Kd.V_far (p := ⟨gb507, 2, none⟩) (Kd.V_far (p := ⟨gb507, 1, none⟩) (Kd.V_far (p := ⟨gb507, 0, none⟩) (Kd.V_mono HO_3.out (fun k_ hk => (⟨hk, hk.2⟩ : _ ∧ k_ ≠ gb507))) (fun _ hk => hk.2) (.int .i64 ((rd_T51 l1 x181_4).f0.f0))) (fun _ hk => hk.2) (.int .i64 ((rd_T51 l1 x181_4).f0.f1))) (fun _ hk => hk.2) (.int .i64 ((rd_T51 l1 x181_4).f1.f0))) (fun _ hk => hk.2) (.int .i64 ((rd_T51 l1 x181_4).f1.f1))) (fun _ hk => ⟨hk.1.1.1, ⟨hk.1.1.2, hk.1.2⟩⟩)⟩
                          have n1_ : Aside0 (Kd.R k51 51 ((((w148.setCell ⟨gb507, 0, none⟩ (.int .i64 ((rd_T51 l1 x181_4).f0.f0))).setCell ⟨gb507, 1, none⟩ (.int .i64 ((rd_T51 l1 x181_4).f0.f1))).setCell ⟨gb507, 2, none⟩ (.int .i64 ((rd_T51 l1 x181_4).f1.f0))).setCell ⟨gb507, 3, none⟩ (.int .i64 ((rd_T51 l1 x181_4).f1.f1))) w.heap.size (fun k_ => (w.heap.size ≤ k_) ∧ k_ ≠ gb507) v497 t496) := ⟨by (with_reducible repeat (first | apply Kd.R_alloc | apply Kd.R_drewN | apply Kd.R_drew)); exact Kd.R_mono (Kd.R_far (p := ⟨gb507, 3, none⟩) (Kd.R_far (p := ⟨gb507, 2, none⟩) (Kd.R_far (p := ⟨gb507, 1, none⟩) (Kd.R_far (p := ⟨gb507, 0, none⟩) (Kd.R_mono HO_12.out (fun k_ hk => (⟨hk, hk.2⟩ : _ ∧ k_ ≠ gb507))) (fun _ hk => hk.2) (.int .i64 ((rd_T51 l1 x181_4).f0.f0))) (fun _ hk => hk.2) (.int .i64 ((rd_T51 l1 x181_4).f0.f1))) (fun _ hk => hk.2) (.int .i64 ((rd_T51 l1 x181_4).f1.f0))) (fun _ hk => hk.2) (.int .i64 ((rd_T51 l1 x181_4).f1.f1))) (fun _ hk => ⟨hk.1.1, hk.1.2⟩)⟩
                          have n2_ : Aside0 (((((w148.setCell ⟨gb507, 0, none⟩ (.int .i64 ((rd_T51 l1 x181_4).f0.f0))).setCell ⟨gb507, 1, none⟩ (.int .i64 ((rd_T51 l1 x181_4).f0.f1))).setCell ⟨gb507, 2, none⟩ (.int .i64 ((rd_T51 l1 x181_4).f1.f0))).setCell ⟨gb507, 3, none⟩ (.int .i64 ((rd_T51 l1 x181_4).f1.f1))).heap[gb507]? = some (.cells #[.int .i64 ((rd_T51 l1 x181_4).f0.f0), .int .i64 ((rd_T51 l1 x181_4).f0.f1), .int .i64 ((rd_T51 l1 x181_4).f1.f0), .int .i64 ((rd_T51 l1 x181_4).f1.f1)] 51 (0, 0))) := ⟨by (with_reducible repeat (first | refine blk_drewN ?_ _ | refine blk_drew ?_ | refine blk_alloc ?_ _)); refine blk_put (cs := #[.int .i64 ((rd_T51 l1 x181_4).f0.f0), .int .i64 ((rd_T51 l1 x181_4).f0.f1), .int .i64 ((rd_T51 l1 x181_4).f1.f0), .int .i64 0]) ?_ 3 _ rfl; (with_reducible repeat (first | refine blk_drewN ?_ _ | refine blk_drew ?_ | refine blk_alloc ?_ _)); refine blk_put (cs := #[.int .i64 ((rd_T51 l1 x181_4).f0.f0), .int .i64 ((rd_T51 l1 x181_4).f0.f1), .int .i64 0, .int .i64 0]) ?_ 2 _ rfl; (with_reducible repeat (first | refine blk_drewN ?_ _ | refine blk_drew ?_ | refine blk_alloc ?_ _)); refine blk_put (cs := #[.int .i64 ((rd_T51 l1 x181_4).f0.f0), .int .i64 0, .int .i64 0, .int .i64 0]) ?_ 1 _ rfl; (with_reducible repeat (first | refine blk_drewN ?_ _ | refine blk_drew ?_ | refine blk_alloc ?_ _)); refine blk_put (cs := #[.int .i64 0, .int .i64 0, .int .i64 0, .int .i64 0]) ?_ 0 _ rfl; (with_reducible repeat (first | refine blk_drewN ?_ _ | refine blk_drew ?_ | refine blk_alloc ?_ _)); exact BK507.out⟩
                          have n3_ : Aside0 (Below w.heap.size w ((((w148.setCell ⟨gb507, 0, none⟩ (.int .i64 ((rd_T51 l1 x181_4).f0.f0))).setCell ⟨gb507, 1, none⟩ (.int .i64 ((rd_T51 l1 x181_4).f0.f1))).setCell ⟨gb507, 2, none⟩ (.int .i64 ((rd_T51 l1 x181_4).f1.f0))).setCell ⟨gb507, 3, none⟩ (.int .i64 ((rd_T51 l1 x181_4).f1.f1)))) := ⟨bl_⟩
                          (try clear HO_3)
                          (try clear HO_12)
                          (try clear BK507)
                          (try clear HB)
                          generalize ((((w148.setCell ⟨gb507, 0, none⟩ (.int .i64 ((rd_T51 l1 x181_4).f0.f0))).setCell ⟨gb507, 1, none⟩ (.int .i64 ((rd_T51 l1 x181_4).f0.f1))).setCell ⟨gb507, 2, none⟩ (.int .i64 ((rd_T51 l1 x181_4).f1.f0))).setCell ⟨gb507, 3, none⟩ (.int .i64 ((rd_T51 l1 x181_4).f1.f1))) = w150 at n0_ n1_ n2_ n3_ ⊢
                          have HO_3 := n0_
                          have HO_12 := n1_
                          have BK507 := n2_
                          have HB := n3_
                          clear n0_ n1_ n2_ n3_
                          have n0_ := a_ (Kd.V_drew HO_3.out)
                          have n1_ := a_ (Kd.R_drew HO_12.out)
                          have n2_ := a_ (blk_drew BK507.out)
                          have n3_ := a_ (below_drew1 HB.out)
                          clear HO_3
                          clear HO_12
                          clear BK507
                          clear HB
                          have HO_3 := n0_
                          have HO_12 := n1_
                          have BK507 := n2_
                          have HB := n3_
                          clear n0_ n1_ n2_ n3_
                          have p508 : 0 ≤ ((ji122) : Int) := of_decide_eq_true (by first | (with_reducible assumption) | assumption)
                          have q508 : (ji122) < (l3.length : Int) := of_decide_eq_true (by first | (with_reducible assumption) | assumption)
                          obtain ⟨ad508, e508, hx508_0⟩ := Kd.at_int (Kd.V_reads' HO_3.out).2.2 (ji122) p508 q508
                          cases e508
                          replace p508 := eq_true p508
                          replace q508 := eq_true q508
                          have p509 : 0 ≤ ((ji125) : Int) := of_decide_eq_true (by first | (with_reducible assumption) | assumption)
                          have q509 : (ji125) < (l3.length : Int) := of_decide_eq_true (by first | (with_reducible assumption) | assumption)
                          obtain ⟨ad509, e509, hx509_0⟩ := Kd.at_int (Kd.V_reads' HO_3.out).2.2 (ji125) p509 q509
                          obtain rfl : ad508 = ad509 := (by injection e509)
                          replace p509 := eq_true p509
                          replace q509 := eq_true q509
                          have p510 : 0 ≤ ((ji122) : Int) := of_decide_eq_true (by first | (with_reducible assumption) | assumption)
                          have q510 : (ji122) < (l3.length : Int) := of_decide_eq_true (by first | (with_reducible assumption) | assumption)
                          obtain ⟨ad510, e510, hx510_0⟩ := Kd.at_int (Kd.V_reads' HO_3.out).2.2 (ji122) p510 q510
                          obtain rfl : ad508 = ad510 := (by injection e510)
                          replace p510 := eq_true p510
                          replace q510 := eq_true q510
                          refine start_ (n := 25) (S := fun w' => w'.cell? (ad508.add ((ji122)).toNat) = some (.int .i64 (rd l3 (ji122))) ∧ w'.cell? (ad508.add ((ji125)).toNat) = some (.int .i64 (rd l3 (ji125))) ∧ w'.cell? (ad508.add ((ji122)).toNat) = some (.int .i64 (rd l3 (ji122)))) (ds := []) #[false, false, false, false, false, false, false, false, false, false, false, false, false, false, false, false, false, false, false, false, false, false, false, false, false] (by kernel_rfl) rfl rfl ⟨hx508_0, hx509_0, hx510_0⟩ (fun hHeld => ?_); refine with_tabW waterhourlaw04_RefillWithout.tab28 waterhourlaw04_RefillWithout.bits28 (fun HT_ HW_ => ?_)
                          generalize w150.drew = w151 at HO_3 HO_12 BK507 HB hx508_0 hx509_0 hx510_0 hHeld ⊢
                          refine pz_ 0 186 HT_ ?_
                          refine pz_ 1 187 HT_ ?_
                          refine pz_ 2 188 HT_ ?_
                          refine pz_ 3 189 HT_ ?_
                          refine pz_ 4 190 HT_ ?_
                          refine pz_ 5 191 HT_ ?_
                          refine pz_ 7 193 HT_ ?_
                          refine pz_ 8 194 HT_ ?_
                          refine pz_ 9 195 HT_ ?_
                          refine pz_ 10 196 HT_ ?_
                          refine pz_ 11 197 HT_ ?_
                          refine pz_ 12 198 HT_ ?_
                          refine pz_ 13 199 HT_ ?_
                          refine pz_ 16 202 HT_ ?_
                          refine pz_ 17 203 HT_ ?_
                          refine pz_ 18 204 HT_ ?_
                          refine pz_ 19 205 HT_ ?_
                          refine pz_ 20 206 HT_ ?_
                          refine pz_ 21 207 HT_ ?_
                          refine take_ (i := 6) (N := some 192) (v := ?_) (a' := ?_) #[true, true, true, true, true, true, true, true, true, true, true, true, true, true, false, false, true, true, true, true, true, true, false, false, false] rfl rfl (take_ofW HT_.out HW_.out (by kernel_rfl)) (fun _ _ _ h => h) (Or.inl ⟨by rfl, ?_⟩) hHeld ?_ ?_
                          rotate_left
                          ·rintro w' ⟨s0, s1, s2⟩
                           go_simp
                           with_reducible rfl
                          rotate_left
                          ·simp only [Act.put, List.setIfInBounds_toArray, List.set_cons_zero, List.set_cons_succ, i64_w, i32_w]
                           rfl
                          refine take_ (i := 14) (N := some 200) (v := ?_) (a' := ?_) #[true, true, true, true, true, true, true, true, true, true, true, true, true, true, true, false, true, true, true, true, true, true, false, false, false] rfl rfl (take_ofW HT_.out HW_.out (by kernel_rfl)) (fun _ _ _ h => h) (Or.inl ⟨by rfl, ?_⟩) hHeld ?_ ?_
                          rotate_left
                          ·rintro w' ⟨s0, s1, s2⟩
                           go_simp
                           with_reducible rfl
                          rotate_left
                          ·simp only [Act.put, List.setIfInBounds_toArray, List.set_cons_zero, List.set_cons_succ, i64_w, i32_w]
                           rfl
                          refine pz_ 15 201 HT_ ?_
                          refine pz_ 23 17 HT_ ?_
                          refine take_ (i := 22) (N := some 208) (v := ?_) (a' := ?_) #[true, true, true, true, true, true, true, true, true, true, true, true, true, true, true, true, true, true, true, true, true, true, true, true, false] rfl rfl (take_ofW HT_.out HW_.out (by kernel_rfl)) (fun _ _ _ h => h) (Or.inl ⟨by rfl, ?_⟩) hHeld ?_ ?_
                          rotate_left
                          ·rintro w' ⟨s0, s1, s2⟩
                           go_simp
                           with_reducible rfl
                          rotate_left
                          ·simp only [Act.put, List.setIfInBounds_toArray, List.set_cons_zero, List.set_cons_succ, i64_w, i32_w]
                           rfl
                          refine pz_ 24 18 HT_ ?_
                          refine done_ (done_of HT_.out (by kernel_rfl)) ?_
                          have hcz152_0 : w151.cell? ⟨gb507, 0, none⟩ = some (.int .i64 ((rd_T51 l1 x181_4).f0.f0)) := (blk_cell BK507.out 0).trans rfl
                          have hcz152_1 : w151.cell? ⟨gb507, 1, none⟩ = some (.int .i64 ((rd_T51 l1 x181_4).f0.f1)) := (blk_cell BK507.out 1).trans rfl
                          have hcz152_2 : w151.cell? ⟨gb507, 2, none⟩ = some (.int .i64 ((rd_T51 l1 x181_4).f1.f0)) := (blk_cell BK507.out 2).trans rfl
                          have hcz152_3 : w151.cell? ⟨gb507, 3, none⟩ = some (.int .i64 ((rd_T51 l1 x181_4).f1.f1)) := (blk_cell BK507.out 3).trans rfl
                          have hfz152_0 := blk_frozen BK507.out 0
                          have hfz152_1 := blk_frozen BK507.out 1
                          have hfz152_2 := blk_frozen BK507.out 2
                          have hfz152_3 := blk_frozen BK507.out 3
                          try go_wp2_with (first | (go_at_call 38; (with_reducible refine (waterhourref04_Known.calls ((rd_T51 l1 x181_4).f1.f0) ((rd_T51 l1 x181_4).f1.f1) false _ A131.out).mono ?_); rintro e w153 ⟨rfl, hb⟩; have n0_ := a_ (Kd.V_below (vl_ HO_3.out) hb); have n1_ := a_ (Kd.R_below (rl_ HO_12.out) hb); have n2_ := a_ (bb_ BK507.out hb); have n3_ := a_ (below_step bl_ hb); clear HO_3; clear HO_12; clear BK507; clear HB; have HO_3 := n0_; have HO_12 := n1_; have BK507 := n2_; have HB := n3_; clear n0_ n1_ n2_ n3_; (try clear hb); (try clear hb2); (try clear hk); (try clear hi)))
                          go_roundg k4
                          case measure => have := HJ6.out; have := HJ23.out; have := HJ107.out; have := HK4.out; omega
                          case rel => exact ⟨(true), (wrap64 (x181_4 + 1)), (by first | rfl | (simp; done) | (simp [*]; done)), (by first | rfl | (simp; done) | (simp [*]; done)), H', ⟨by have := HJ6.out; have := HJ23.out; have := HJ107.out; have := HK4.out; omega⟩, ⟨by (with_reducible repeat (first | apply Kd.V_alloc | apply Kd.V_drewN | apply Kd.V_drew)); exact Kd.V_mono HO_3.out (fun _ hk => ⟨hk.1, hk.2.1⟩)⟩, ⟨rl_ (Kd.R_mono HO_12.out (fun _ hk => hk.1))⟩, ⟨bl_⟩⟩
                        ·rw [if_neg c130] at H
                         have c130b0 : decide ((wrap64 ((rd l3 (ji122)) - (rd l3 (ji125)))) ≤ ((rd_T51 l1 x181_4).f0.f1)) = false := decide_eq_false c130
                         clear c130
                         have H' := a_ H
                         clear H
                         have p506 : 0 ≤ (x181_4 : Int) := of_decide_eq_true (by first | (with_reducible assumption) | assumption)
                         have q506 : x181_4 < (l1.length : Int) := of_decide_eq_true (by first | (with_reducible assumption) | assumption)
                         obtain ⟨ad506, e506, hx506_0, hx506_1, hx506_2, hx506_3⟩ := at_T51 HR1.out x181_4 p506 q506
                         cases e506
                         replace hx506_0 := (HB.out.cell (World.block_lt_of_cell? w _ hx506_0)).trans hx506_0
                         replace hx506_1 := (HB.out.cell (World.block_lt_of_cell? w _ hx506_1)).trans hx506_1
                         replace hx506_2 := (HB.out.cell (World.block_lt_of_cell? w _ hx506_2)).trans hx506_2
                         replace hx506_3 := (HB.out.cell (World.block_lt_of_cell? w _ hx506_3)).trans hx506_3
                         replace p506 := eq_true p506
                         replace q506 := eq_true q506
                         try go_wp2_with (first | ((with_reducible refine gate_dst (N := 16) rfl ?_); (try (refine gate_guard (by rfl) ?_; dsimp only)); refine box_event ?hg (N := 16) ?hd (cs := #[.int .i64 0, .int .i64 0, .int .i64 0, .int .i64 0]) (t := 51) ?hr ?_; (case hd => rfl); (case hg => rfl); (case hr => first | (go_simp; done) | (go_simp; rfl)); intro gb507 hg w154 hbox hb; have n0_ := a_ (Kd.V_below (Kd.V_elderB (vl_ HO_3.out) gb507 (Nat.le_of_eq hg.symm)) hb); have n1_ := a_ (Kd.R_below (Kd.R_elderB (rl_ HO_12.out) gb507 (Nat.le_of_eq hg.symm)) hb); have n2_ := a_ (below_step bl_ hb); have n3_ := a_ (hbox); have n4_ := a_ ((bz_ (w := w) hg)); have n5_ := a_ ((bz_ (w := w) hg)); clear HO_3; clear HO_12; clear HB; have HO_3 := n0_; have HO_12 := n1_; have HB := n2_; have BK507 := n3_; have GW507 := n4_; have GE507 := n5_; clear n0_ n1_ n2_ n3_ n4_ n5_; clear hb hbox hg; have hcz155_0 : w154.cell? ⟨gb507, 0, none⟩ = some (.int .i64 0) := (blk_cell BK507.out 0).trans rfl; have hcz155_1 : w154.cell? ⟨gb507, 1, none⟩ = some (.int .i64 0) := (blk_cell BK507.out 1).trans rfl; have hcz155_2 : w154.cell? ⟨gb507, 2, none⟩ = some (.int .i64 0) := (blk_cell BK507.out 2).trans rfl; have hcz155_3 : w154.cell? ⟨gb507, 3, none⟩ = some (.int .i64 0) := (blk_cell BK507.out 3).trans rfl; have hfz155_0 := blk_frozen BK507.out 0; have hfz155_1 := blk_frozen BK507.out 1; have hfz155_2 := blk_frozen BK507.out 2; have hfz155_3 := blk_frozen BK507.out 3))
                         have n0_ : Aside0 (Kd.V (Kd.int .i64) 3 ((((w154.setCell ⟨gb507, 0, none⟩ (.int .i64 ((rd_T51 l1 x181_4).f0.f0))).setCell ⟨gb507, 1, none⟩ (.int .i64 ((rd_T51 l1 x181_4).f0.f1))).setCell ⟨gb507, 2, none⟩ (.int .i64 ((rd_T51 l1 x181_4).f1.f0))).setCell ⟨gb507, 3, none⟩ (.int .i64 ((rd_T51 l1 x181_4).f1.f1))) w.heap.size (fun k_ => (P3_ k_ ∨ w.heap.size ≤ k_) ∧ some k_ ≠ (v497 : Value).ownBlock ∧ k_ ≠ gb507) (.slice A3 l3.length c3) l3) := ⟨by (with_reducible repeat (first | apply Kd.V_alloc | apply Kd.V_drewN | apply Kd.V_drew)); exact Kd.V_mono (Kd.V_far (p := ⟨gb507, 3, none⟩) (Kd.V_far (p := ⟨gb507, 2, none⟩) (Kd.V_far (p := ⟨gb507, 1, none⟩) (Kd.V_far (p := ⟨gb507, 0, none⟩) (Kd.V_mono HO_3.out (fun k_ hk => (⟨hk, hk.2⟩ : _ ∧ k_ ≠ gb507))) (fun _ hk => hk.2) (.int .i64 ((rd_T51 l1 x181_4).f0.f0))) (fun _ hk => hk.2) (.int .i64 ((rd_T51 l1 x181_4).f0.f1))) (fun _ hk => hk.2) (.int .i64 ((rd_T51 l1 x181_4).f1.f0))) (fun _ hk => hk.2) (.int .i64 ((rd_T51 l1 x181_4).f1.f1))) (fun _ hk => ⟨hk.1.1.1, ⟨hk.1.1.2, hk.1.2⟩⟩)⟩
                         have n1_ : Aside0 (Kd.R k51 51 ((((w154.setCell ⟨gb507, 0, none⟩ (.int .i64 ((rd_T51 l1 x181_4).f0.f0))).setCell ⟨gb507, 1, none⟩ (.int .i64 ((rd_T51 l1 x181_4).f0.f1))).setCell ⟨gb507, 2, none⟩ (.int .i64 ((rd_T51 l1 x181_4).f1.f0))).setCell ⟨gb507, 3, none⟩ (.int .i64 ((rd_T51 l1 x181_4).f1.f1))) w.heap.size (fun k_ => (w.heap.size ≤ k_) ∧ k_ ≠ gb507) v497 t496) := ⟨by (with_reducible repeat (first | apply Kd.R_alloc | apply Kd.R_drewN | apply Kd.R_drew)); exact Kd.R_mono (Kd.R_far (p := ⟨gb507, 3, none⟩) (Kd.R_far (p := ⟨gb507, 2, none⟩) (Kd.R_far (p := ⟨gb507, 1, none⟩) (Kd.R_far (p := ⟨gb507, 0, none⟩) (Kd.R_mono HO_12.out (fun k_ hk => (⟨hk, hk.2⟩ : _ ∧ k_ ≠ gb507))) (fun _ hk => hk.2) (.int .i64 ((rd_T51 l1 x181_4).f0.f0))) (fun _ hk => hk.2) (.int .i64 ((rd_T51 l1 x181_4).f0.f1))) (fun _ hk => hk.2) (.int .i64 ((rd_T51 l1 x181_4).f1.f0))) (fun _ hk => hk.2) (.int .i64 ((rd_T51 l1 x181_4).f1.f1))) (fun _ hk => ⟨hk.1.1, hk.1.2⟩)⟩
                         have n2_ : Aside0 (((((w154.setCell ⟨gb507, 0, none⟩ (.int .i64 ((rd_T51 l1 x181_4).f0.f0))).setCell ⟨gb507, 1, none⟩ (.int .i64 ((rd_T51 l1 x181_4).f0.f1))).setCell ⟨gb507, 2, none⟩ (.int .i64 ((rd_T51 l1 x181_4).f1.f0))).setCell ⟨gb507, 3, none⟩ (.int .i64 ((rd_T51 l1 x181_4).f1.f1))).heap[gb507]? = some (.cells #[.int .i64 ((rd_T51 l1 x181_4).f0.f0), .int .i64 ((rd_T51 l1 x181_4).f0.f1), .int .i64 ((rd_T51 l1 x181_4).f1.f0), .int .i64 ((rd_T51 l1 x181_4).f1.f1)] 51 (0, 0))) := ⟨by (with_reducible repeat (first | refine blk_drewN ?_ _ | refine blk_drew ?_ | refine blk_alloc ?_ _)); refine blk_put (cs := #[.int .i64 ((rd_T51 l1 x181_4).f0.f0), .int .i64 ((rd_T51 l1 x181_4).f0.f1), .int .i64 ((rd_T51 l1 x181_4).f1.f0), .int .i64 0]) ?_ 3 _ rfl; (with_reducible repeat (first | refine blk_drewN ?_ _ | refine blk_drew ?_ | refine blk_alloc ?_ _)); refine blk_put (cs := #[.int .i64 ((rd_T51 l1 x181_4).f0.f0), .int .i64 ((rd_T51 l1 x181_4).f0.f1), .int .i64 0, .int .i64 0]) ?_ 2 _ rfl; (with_reducible repeat (first | refine blk_drewN ?_ _ | refine blk_drew ?_ | refine blk_alloc ?_ _)); refine blk_put (cs := #[.int .i64 ((rd_T51 l1 x181_4).f0.f0), .int .i64 0, .int .i64 0, .int .i64 0]) ?_ 1 _ rfl; (with_reducible repeat (first | refine blk_drewN ?_ _ | refine blk_drew ?_ | refine blk_alloc ?_ _)); refine blk_put (cs := #[.int .i64 0, .int .i64 0, .int .i64 0, .int .i64 0]) ?_ 0 _ rfl; (with_reducible repeat (first | refine blk_drewN ?_ _ | refine blk_drew ?_ | refine blk_alloc ?_ _)); exact BK507.out⟩
                         have n3_ : Aside0 (Below w.heap.size w ((((w154.setCell ⟨gb507, 0, none⟩ (.int .i64 ((rd_T51 l1 x181_4).f0.f0))).setCell ⟨gb507, 1, none⟩ (.int .i64 ((rd_T51 l1 x181_4).f0.f1))).setCell ⟨gb507, 2, none⟩ (.int .i64 ((rd_T51 l1 x181_4).f1.f0))).setCell ⟨gb507, 3, none⟩ (.int .i64 ((rd_T51 l1 x181_4).f1.f1)))) := ⟨bl_⟩
                         (try clear HO_3)
                         (try clear HO_12)
                         (try clear BK507)
                         (try clear HB)
                         generalize ((((w154.setCell ⟨gb507, 0, none⟩ (.int .i64 ((rd_T51 l1 x181_4).f0.f0))).setCell ⟨gb507, 1, none⟩ (.int .i64 ((rd_T51 l1 x181_4).f0.f1))).setCell ⟨gb507, 2, none⟩ (.int .i64 ((rd_T51 l1 x181_4).f1.f0))).setCell ⟨gb507, 3, none⟩ (.int .i64 ((rd_T51 l1 x181_4).f1.f1))) = w156 at n0_ n1_ n2_ n3_ ⊢
                         have HO_3 := n0_
                         have HO_12 := n1_
                         have BK507 := n2_
                         have HB := n3_
                         clear n0_ n1_ n2_ n3_
                         have n0_ := a_ (Kd.V_drew HO_3.out)
                         have n1_ := a_ (Kd.R_drew HO_12.out)
                         have n2_ := a_ (blk_drew BK507.out)
                         have n3_ := a_ (below_drew1 HB.out)
                         clear HO_3
                         clear HO_12
                         clear BK507
                         clear HB
                         have HO_3 := n0_
                         have HO_12 := n1_
                         have BK507 := n2_
                         have HB := n3_
                         clear n0_ n1_ n2_ n3_
                         have p508 : 0 ≤ ((ji122) : Int) := of_decide_eq_true (by first | (with_reducible assumption) | assumption)
                         have q508 : (ji122) < (l3.length : Int) := of_decide_eq_true (by first | (with_reducible assumption) | assumption)
                         obtain ⟨ad508, e508, hx508_0⟩ := Kd.at_int (Kd.V_reads' HO_3.out).2.2 (ji122) p508 q508
                         cases e508
                         replace p508 := eq_true p508
                         replace q508 := eq_true q508
                         have p509 : 0 ≤ ((ji125) : Int) := of_decide_eq_true (by first | (with_reducible assumption) | assumption)
                         have q509 : (ji125) < (l3.length : Int) := of_decide_eq_true (by first | (with_reducible assumption) | assumption)
                         obtain ⟨ad509, e509, hx509_0⟩ := Kd.at_int (Kd.V_reads' HO_3.out).2.2 (ji125) p509 q509
                         obtain rfl : ad508 = ad509 := (by injection e509)
                         replace p509 := eq_true p509
                         replace q509 := eq_true q509
                         have p510 : 0 ≤ ((ji122) : Int) := of_decide_eq_true (by first | (with_reducible assumption) | assumption)
                         have q510 : (ji122) < (l3.length : Int) := of_decide_eq_true (by first | (with_reducible assumption) | assumption)
                         obtain ⟨ad510, e510, hx510_0⟩ := Kd.at_int (Kd.V_reads' HO_3.out).2.2 (ji122) p510 q510
                         obtain rfl : ad508 = ad510 := (by injection e510)
                         replace p510 := eq_true p510
                         replace q510 := eq_true q510
                         refine start_ (n := 25) (S := fun w' => w'.cell? (ad508.add ((ji122)).toNat) = some (.int .i64 (rd l3 (ji122))) ∧ w'.cell? (ad508.add ((ji125)).toNat) = some (.int .i64 (rd l3 (ji125))) ∧ w'.cell? (ad508.add ((ji122)).toNat) = some (.int .i64 (rd l3 (ji122)))) (ds := []) #[false, false, false, false, false, false, false, false, false, false, false, false, false, false, false, false, false, false, false, false, false, false, false, false, false] (by kernel_rfl) rfl rfl ⟨hx508_0, hx509_0, hx510_0⟩ (fun hHeld => ?_); refine with_tabW waterhourlaw04_RefillWithout.tab28 waterhourlaw04_RefillWithout.bits28 (fun HT_ HW_ => ?_)
                         generalize w156.drew = w157 at HO_3 HO_12 BK507 HB hx508_0 hx509_0 hx510_0 hHeld ⊢
                         refine pz_ 0 186 HT_ ?_
                         refine pz_ 1 187 HT_ ?_
                         refine pz_ 2 188 HT_ ?_
                         refine pz_ 3 189 HT_ ?_
                         refine pz_ 4 190 HT_ ?_
                         refine pz_ 5 191 HT_ ?_
                         refine pz_ 7 193 HT_ ?_
                         refine pz_ 8 194 HT_ ?_
                         refine pz_ 9 195 HT_ ?_
                         refine pz_ 10 196 HT_ ?_
                         refine pz_ 11 197 HT_ ?_
                         refine pz_ 12 198 HT_ ?_
                         refine pz_ 13 199 HT_ ?_
                         refine pz_ 16 202 HT_ ?_
                         refine pz_ 17 203 HT_ ?_
                         refine pz_ 18 204 HT_ ?_
                         refine pz_ 19 205 HT_ ?_
                         refine pz_ 20 206 HT_ ?_
                         refine pz_ 21 207 HT_ ?_
                         refine take_ (i := 6) (N := some 192) (v := ?_) (a' := ?_) #[true, true, true, true, true, true, true, true, true, true, true, true, true, true, false, false, true, true, true, true, true, true, false, false, false] rfl rfl (take_ofW HT_.out HW_.out (by kernel_rfl)) (fun _ _ _ h => h) (Or.inl ⟨by rfl, ?_⟩) hHeld ?_ ?_
                         rotate_left
                         ·rintro w' ⟨s0, s1, s2⟩
                          go_simp
                          with_reducible rfl
                         rotate_left
                         ·simp only [Act.put, List.setIfInBounds_toArray, List.set_cons_zero, List.set_cons_succ, i64_w, i32_w]
                          rfl
                         refine take_ (i := 14) (N := some 200) (v := ?_) (a' := ?_) #[true, true, true, true, true, true, true, true, true, true, true, true, true, true, true, false, true, true, true, true, true, true, false, false, false] rfl rfl (take_ofW HT_.out HW_.out (by kernel_rfl)) (fun _ _ _ h => h) (Or.inl ⟨by rfl, ?_⟩) hHeld ?_ ?_
                         rotate_left
                         ·rintro w' ⟨s0, s1, s2⟩
                          go_simp
                          with_reducible rfl
                         rotate_left
                         ·simp only [Act.put, List.setIfInBounds_toArray, List.set_cons_zero, List.set_cons_succ, i64_w, i32_w]
                          rfl
                         refine pz_ 15 201 HT_ ?_
                         refine pz_ 23 17 HT_ ?_
                         refine take_ (i := 22) (N := some 208) (v := ?_) (a' := ?_) #[true, true, true, true, true, true, true, true, true, true, true, true, true, true, true, true, true, true, true, true, true, true, true, true, false] rfl rfl (take_ofW HT_.out HW_.out (by kernel_rfl)) (fun _ _ _ h => h) (Or.inl ⟨by rfl, ?_⟩) hHeld ?_ ?_
                         rotate_left
                         ·rintro w' ⟨s0, s1, s2⟩
                          go_simp
                          with_reducible rfl
                         rotate_left
                         ·simp only [Act.put, List.setIfInBounds_toArray, List.set_cons_zero, List.set_cons_succ, i64_w, i32_w]
                          rfl
                         refine pz_ 24 18 HT_ ?_
                         refine done_ (done_of HT_.out (by kernel_rfl)) ?_
                         have hcz158_0 : w157.cell? ⟨gb507, 0, none⟩ = some (.int .i64 ((rd_T51 l1 x181_4).f0.f0)) := (blk_cell BK507.out 0).trans rfl
                         have hcz158_1 : w157.cell? ⟨gb507, 1, none⟩ = some (.int .i64 ((rd_T51 l1 x181_4).f0.f1)) := (blk_cell BK507.out 1).trans rfl
                         have hcz158_2 : w157.cell? ⟨gb507, 2, none⟩ = some (.int .i64 ((rd_T51 l1 x181_4).f1.f0)) := (blk_cell BK507.out 2).trans rfl
                         have hcz158_3 : w157.cell? ⟨gb507, 3, none⟩ = some (.int .i64 ((rd_T51 l1 x181_4).f1.f1)) := (blk_cell BK507.out 3).trans rfl
                         have hfz158_0 := blk_frozen BK507.out 0
                         have hfz158_1 := blk_frozen BK507.out 1
                         have hfz158_2 := blk_frozen BK507.out 2
                         have hfz158_3 := blk_frozen BK507.out 3
                         try go_wp2
                         go_roundg k4
                         case measure => have := HJ6.out; have := HJ23.out; have := HJ107.out; have := HK4.out; omega
                         case rel => exact ⟨(false), (wrap64 (x181_4 + 1)), (by first | rfl | (simp; done) | (simp [*]; done)), (by first | rfl | (simp; done) | (simp [*]; done)), H', ⟨by have := HJ6.out; have := HJ23.out; have := HJ107.out; have := HK4.out; omega⟩, ⟨by (with_reducible repeat (first | apply Kd.V_alloc | apply Kd.V_drewN | apply Kd.V_drew)); exact Kd.V_mono HO_3.out (fun _ hk => ⟨hk.1, hk.2.1⟩)⟩, ⟨rl_ (Kd.R_mono HO_12.out (fun _ hk => hk.1))⟩, ⟨bl_⟩⟩
                       ·rw [if_neg c129] at H
                        have c129b0 : decide (((rd_T51 l1 x181_4).f0.f0) ≤ (wrap64 ((rd l3 (ji122)) - (rd l3 (ji125))))) = false := decide_eq_false c129
                        clear c129
                        have H' := a_ H
                        clear H
                        have p506 : 0 ≤ (x181_4 : Int) := of_decide_eq_true (by first | (with_reducible assumption) | assumption)
                        have q506 : x181_4 < (l1.length : Int) := of_decide_eq_true (by first | (with_reducible assumption) | assumption)
                        obtain ⟨ad506, e506, hx506_0, hx506_1, hx506_2, hx506_3⟩ := at_T51 HR1.out x181_4 p506 q506
                        cases e506
                        replace hx506_0 := (HB.out.cell (World.block_lt_of_cell? w _ hx506_0)).trans hx506_0
                        replace hx506_1 := (HB.out.cell (World.block_lt_of_cell? w _ hx506_1)).trans hx506_1
                        replace hx506_2 := (HB.out.cell (World.block_lt_of_cell? w _ hx506_2)).trans hx506_2
                        replace hx506_3 := (HB.out.cell (World.block_lt_of_cell? w _ hx506_3)).trans hx506_3
                        replace p506 := eq_true p506
                        replace q506 := eq_true q506
                        try go_wp2_with (first | ((with_reducible refine gate_dst (N := 16) rfl ?_); (try (refine gate_guard (by rfl) ?_; dsimp only)); refine box_event ?hg (N := 16) ?hd (cs := #[.int .i64 0, .int .i64 0, .int .i64 0, .int .i64 0]) (t := 51) ?hr ?_; (case hd => rfl); (case hg => rfl); (case hr => first | (go_simp; done) | (go_simp; rfl)); intro gb507 hg w159 hbox hb; have n0_ := a_ (Kd.V_below (Kd.V_elderB (vl_ HO_3.out) gb507 (Nat.le_of_eq hg.symm)) hb); have n1_ := a_ (Kd.R_below (Kd.R_elderB (rl_ HO_12.out) gb507 (Nat.le_of_eq hg.symm)) hb); have n2_ := a_ (below_step bl_ hb); have n3_ := a_ (hbox); have n4_ := a_ ((bz_ (w := w) hg)); have n5_ := a_ ((bz_ (w := w) hg)); clear HO_3; clear HO_12; clear HB; have HO_3 := n0_; have HO_12 := n1_; have HB := n2_; have BK507 := n3_; have GW507 := n4_; have GE507 := n5_; clear n0_ n1_ n2_ n3_ n4_ n5_; clear hb hbox hg; have hcz160_0 : w159.cell? ⟨gb507, 0, none⟩ = some (.int .i64 0) := (blk_cell BK507.out 0).trans rfl; have hcz160_1 : w159.cell? ⟨gb507, 1, none⟩ = some (.int .i64 0) := (blk_cell BK507.out 1).trans rfl; have hcz160_2 : w159.cell? ⟨gb507, 2, none⟩ = some (.int .i64 0) := (blk_cell BK507.out 2).trans rfl; have hcz160_3 : w159.cell? ⟨gb507, 3, none⟩ = some (.int .i64 0) := (blk_cell BK507.out 3).trans rfl; have hfz160_0 := blk_frozen BK507.out 0; have hfz160_1 := blk_frozen BK507.out 1; have hfz160_2 := blk_frozen BK507.out 2; have hfz160_3 := blk_frozen BK507.out 3))
                        have n0_ : Aside0 (Kd.V (Kd.int .i64) 3 ((((w159.setCell ⟨gb507, 0, none⟩ (.int .i64 ((rd_T51 l1 x181_4).f0.f0))).setCell ⟨gb507, 1, none⟩ (.int .i64 ((rd_T51 l1 x181_4).f0.f1))).setCell ⟨gb507, 2, none⟩ (.int .i64 ((rd_T51 l1 x181_4).f1.f0))).setCell ⟨gb507, 3, none⟩ (.int .i64 ((rd_T51 l1 x181_4).f1.f1))) w.heap.size (fun k_ => (P3_ k_ ∨ w.heap.size ≤ k_) ∧ some k_ ≠ (v497 : Value).ownBlock ∧ k_ ≠ gb507) (.slice A3 l3.length c3) l3) := ⟨by (with_reducible repeat (first | apply Kd.V_alloc | apply Kd.V_drewN | apply Kd.V_drew)); exact Kd.V_mono (Kd.V_far (p := ⟨gb507, 3, none⟩) (Kd.V_far (p := ⟨gb507, 2, none⟩) (Kd.V_far (p := ⟨gb507, 1, none⟩) (Kd.V_far (p := ⟨gb507, 0, none⟩) (Kd.V_mono HO_3.out (fun k_ hk => (⟨hk, hk.2⟩ : _ ∧ k_ ≠ gb507))) (fun _ hk => hk.2) (.int .i64 ((rd_T51 l1 x181_4).f0.f0))) (fun _ hk => hk.2) (.int .i64 ((rd_T51 l1 x181_4).f0.f1))) (fun _ hk => hk.2) (.int .i64 ((rd_T51 l1 x181_4).f1.f0))) (fun _ hk => hk.2) (.int .i64 ((rd_T51 l1 x181_4).f1.f1))) (fun _ hk => ⟨hk.1.1.1, ⟨hk.1.1.2, hk.1.2⟩⟩)⟩
                        have n1_ : Aside0 (Kd.R k51 51 ((((w159.setCell ⟨gb507, 0, none⟩ (.int .i64 ((rd_T51 l1 x181_4).f0.f0))).setCell ⟨gb507, 1, none⟩ (.int .i64 ((rd_T51 l1 x181_4).f0.f1))).setCell ⟨gb507, 2, none⟩ (.int .i64 ((rd_T51 l1 x181_4).f1.f0))).setCell ⟨gb507, 3, none⟩ (.int .i64 ((rd_T51 l1 x181_4).f1.f1))) w.heap.size (fun k_ => (w.heap.size ≤ k_) ∧ k_ ≠ gb507) v497 t496) := ⟨by (with_reducible repeat (first | apply Kd.R_alloc | apply Kd.R_drewN | apply Kd.R_drew)); exact Kd.R_mono (Kd.R_far (p := ⟨gb507, 3, none⟩) (Kd.R_far (p := ⟨gb507, 2, none⟩) (Kd.R_far (p := ⟨gb507, 1, none⟩) (Kd.R_far (p := ⟨gb507, 0, none⟩) (Kd.R_mono HO_12.out (fun k_ hk => (⟨hk, hk.2⟩ : _ ∧ k_ ≠ gb507))) (fun _ hk => hk.2) (.int .i64 ((rd_T51 l1 x181_4).f0.f0))) (fun _ hk => hk.2) (.int .i64 ((rd_T51 l1 x181_4).f0.f1))) (fun _ hk => hk.2) (.int .i64 ((rd_T51 l1 x181_4).f1.f0))) (fun _ hk => hk.2) (.int .i64 ((rd_T51 l1 x181_4).f1.f1))) (fun _ hk => ⟨hk.1.1, hk.1.2⟩)⟩
                        have n2_ : Aside0 (((((w159.setCell ⟨gb507, 0, none⟩ (.int .i64 ((rd_T51 l1 x181_4).f0.f0))).setCell ⟨gb507, 1, none⟩ (.int .i64 ((rd_T51 l1 x181_4).f0.f1))).setCell ⟨gb507, 2, none⟩ (.int .i64 ((rd_T51 l1 x181_4).f1.f0))).setCell ⟨gb507, 3, none⟩ (.int .i64 ((rd_T51 l1 x181_4).f1.f1))).heap[gb507]? = some (.cells #[.int .i64 ((rd_T51 l1 x181_4).f0.f0), .int .i64 ((rd_T51 l1 x181_4).f0.f1), .int .i64 ((rd_T51 l1 x181_4).f1.f0), .int .i64 ((rd_T51 l1 x181_4).f1.f1)] 51 (0, 0))) := ⟨by (with_reducible repeat (first | refine blk_drewN ?_ _ | refine blk_drew ?_ | refine blk_alloc ?_ _)); refine blk_put (cs := #[.int .i64 ((rd_T51 l1 x181_4).f0.f0), .int .i64 ((rd_T51 l1 x181_4).f0.f1), .int .i64 ((rd_T51 l1 x181_4).f1.f0), .int .i64 0]) ?_ 3 _ rfl; (with_reducible repeat (first | refine blk_drewN ?_ _ | refine blk_drew ?_ | refine blk_alloc ?_ _)); refine blk_put (cs := #[.int .i64 ((rd_T51 l1 x181_4).f0.f0), .int .i64 ((rd_T51 l1 x181_4).f0.f1), .int .i64 0, .int .i64 0]) ?_ 2 _ rfl; (with_reducible repeat (first | refine blk_drewN ?_ _ | refine blk_drew ?_ | refine blk_alloc ?_ _)); refine blk_put (cs := #[.int .i64 ((rd_T51 l1 x181_4).f0.f0), .int .i64 0, .int .i64 0, .int .i64 0]) ?_ 1 _ rfl; (with_reducible repeat (first | refine blk_drewN ?_ _ | refine blk_drew ?_ | refine blk_alloc ?_ _)); refine blk_put (cs := #[.int .i64 0, .int .i64 0, .int .i64 0, .int .i64 0]) ?_ 0 _ rfl; (with_reducible repeat (first | refine blk_drewN ?_ _ | refine blk_drew ?_ | refine blk_alloc ?_ _)); exact BK507.out⟩
                        have n3_ : Aside0 (Below w.heap.size w ((((w159.setCell ⟨gb507, 0, none⟩ (.int .i64 ((rd_T51 l1 x181_4).f0.f0))).setCell ⟨gb507, 1, none⟩ (.int .i64 ((rd_T51 l1 x181_4).f0.f1))).setCell ⟨gb507, 2, none⟩ (.int .i64 ((rd_T51 l1 x181_4).f1.f0))).setCell ⟨gb507, 3, none⟩ (.int .i64 ((rd_T51 l1 x181_4).f1.f1)))) := ⟨bl_⟩
                        (try clear HO_3)
                        (try clear HO_12)
                        (try clear BK507)
                        (try clear HB)
                        generalize ((((w159.setCell ⟨gb507, 0, none⟩ (.int .i64 ((rd_T51 l1 x181_4).f0.f0))).setCell ⟨gb507, 1, none⟩ (.int .i64 ((rd_T51 l1 x181_4).f0.f1))).setCell ⟨gb507, 2, none⟩ (.int .i64 ((rd_T51 l1 x181_4).f1.f0))).setCell ⟨gb507, 3, none⟩ (.int .i64 ((rd_T51 l1 x181_4).f1.f1))) = w161 at n0_ n1_ n2_ n3_ ⊢
                        have HO_3 := n0_
                        have HO_12 := n1_
                        have BK507 := n2_
                        have HB := n3_
                        clear n0_ n1_ n2_ n3_
                        have n0_ := a_ (Kd.V_drew HO_3.out)
                        have n1_ := a_ (Kd.R_drew HO_12.out)
                        have n2_ := a_ (blk_drew BK507.out)
                        have n3_ := a_ (below_drew1 HB.out)
                        clear HO_3
                        clear HO_12
                        clear BK507
                        clear HB
                        have HO_3 := n0_
                        have HO_12 := n1_
                        have BK507 := n2_
                        have HB := n3_
                        clear n0_ n1_ n2_ n3_
                        have p508 : 0 ≤ ((ji122) : Int) := of_decide_eq_true (by first | (with_reducible assumption) | assumption)
                        have q508 : (ji122) < (l3.length : Int) := of_decide_eq_true (by first | (with_reducible assumption) | assumption)
                        obtain ⟨ad508, e508, hx508_0⟩ := Kd.at_int (Kd.V_reads' HO_3.out).2.2 (ji122) p508 q508
                        cases e508
                        replace p508 := eq_true p508
                        replace q508 := eq_true q508
                        have p509 : 0 ≤ ((ji125) : Int) := of_decide_eq_true (by first | (with_reducible assumption) | assumption)
                        have q509 : (ji125) < (l3.length : Int) := of_decide_eq_true (by first | (with_reducible assumption) | assumption)
                        obtain ⟨ad509, e509, hx509_0⟩ := Kd.at_int (Kd.V_reads' HO_3.out).2.2 (ji125) p509 q509
                        obtain rfl : ad508 = ad509 := (by injection e509)
                        replace p509 := eq_true p509
                        replace q509 := eq_true q509
                        have p510 : 0 ≤ ((ji122) : Int) := of_decide_eq_true (by first | (with_reducible assumption) | assumption)
                        have q510 : (ji122) < (l3.length : Int) := of_decide_eq_true (by first | (with_reducible assumption) | assumption)
                        obtain ⟨ad510, e510, hx510_0⟩ := Kd.at_int (Kd.V_reads' HO_3.out).2.2 (ji122) p510 q510
                        obtain rfl : ad508 = ad510 := (by injection e510)
                        replace p510 := eq_true p510
                        replace q510 := eq_true q510
                        refine start_ (n := 25) (S := fun w' => w'.cell? (ad508.add ((ji122)).toNat) = some (.int .i64 (rd l3 (ji122))) ∧ w'.cell? (ad508.add ((ji125)).toNat) = some (.int .i64 (rd l3 (ji125))) ∧ w'.cell? (ad508.add ((ji122)).toNat) = some (.int .i64 (rd l3 (ji122)))) (ds := []) #[false, false, false, false, false, false, false, false, false, false, false, false, false, false, false, false, false, false, false, false, false, false, false, false, false] (by kernel_rfl) rfl rfl ⟨hx508_0, hx509_0, hx510_0⟩ (fun hHeld => ?_); refine with_tabW waterhourlaw04_RefillWithout.tab28 waterhourlaw04_RefillWithout.bits28 (fun HT_ HW_ => ?_)
                        generalize w161.drew = w162 at HO_3 HO_12 BK507 HB hx508_0 hx509_0 hx510_0 hHeld ⊢
                        refine pz_ 0 186 HT_ ?_
                        refine pz_ 1 187 HT_ ?_
                        refine pz_ 2 188 HT_ ?_
                        refine pz_ 3 189 HT_ ?_
                        refine pz_ 4 190 HT_ ?_
                        refine pz_ 5 191 HT_ ?_
                        refine pz_ 7 193 HT_ ?_
                        refine pz_ 8 194 HT_ ?_
                        refine pz_ 9 195 HT_ ?_
                        refine pz_ 10 196 HT_ ?_
                        refine pz_ 11 197 HT_ ?_
                        refine pz_ 12 198 HT_ ?_
                        refine pz_ 13 199 HT_ ?_
                        refine pz_ 16 202 HT_ ?_
                        refine pz_ 17 203 HT_ ?_
                        refine pz_ 18 204 HT_ ?_
                        refine pz_ 19 205 HT_ ?_
                        refine pz_ 20 206 HT_ ?_
                        refine pz_ 21 207 HT_ ?_
                        refine take_ (i := 6) (N := some 192) (v := ?_) (a' := ?_) #[true, true, true, true, true, true, true, true, true, true, true, true, true, true, false, false, true, true, true, true, true, true, false, false, false] rfl rfl (take_ofW HT_.out HW_.out (by kernel_rfl)) (fun _ _ _ h => h) (Or.inl ⟨by rfl, ?_⟩) hHeld ?_ ?_
                        rotate_left
                        ·rintro w' ⟨s0, s1, s2⟩
                         go_simp
                         with_reducible rfl
                        rotate_left
                        ·simp only [Act.put, List.setIfInBounds_toArray, List.set_cons_zero, List.set_cons_succ, i64_w, i32_w]
                         rfl
                        refine take_ (i := 14) (N := some 200) (v := ?_) (a' := ?_) #[true, true, true, true, true, true, true, true, true, true, true, true, true, true, true, false, true, true, true, true, true, true, false, false, false] rfl rfl (take_ofW HT_.out HW_.out (by kernel_rfl)) (fun _ _ _ h => h) (Or.inl ⟨by rfl, ?_⟩) hHeld ?_ ?_
                        rotate_left
                        ·rintro w' ⟨s0, s1, s2⟩
                         go_simp
                         with_reducible rfl
                        rotate_left
                        ·simp only [Act.put, List.setIfInBounds_toArray, List.set_cons_zero, List.set_cons_succ, i64_w, i32_w]
                         rfl
                        refine pz_ 15 201 HT_ ?_
                        refine pz_ 23 17 HT_ ?_
                        refine take_ (i := 22) (N := some 208) (v := ?_) (a' := ?_) #[true, true, true, true, true, true, true, true, true, true, true, true, true, true, true, true, true, true, true, true, true, true, true, true, false] rfl rfl (take_ofW HT_.out HW_.out (by kernel_rfl)) (fun _ _ _ h => h) (Or.inl ⟨by rfl, ?_⟩) hHeld ?_ ?_
                        rotate_left
                        ·rintro w' ⟨s0, s1, s2⟩
                         go_simp
                         with_reducible rfl
                        rotate_left
                        ·simp only [Act.put, List.setIfInBounds_toArray, List.set_cons_zero, List.set_cons_succ, i64_w, i32_w]
                         rfl
                        refine pz_ 24 18 HT_ ?_
                        refine done_ (done_of HT_.out (by kernel_rfl)) ?_
                        have hcz163_0 : w162.cell? ⟨gb507, 0, none⟩ = some (.int .i64 ((rd_T51 l1 x181_4).f0.f0)) := (blk_cell BK507.out 0).trans rfl
                        have hcz163_1 : w162.cell? ⟨gb507, 1, none⟩ = some (.int .i64 ((rd_T51 l1 x181_4).f0.f1)) := (blk_cell BK507.out 1).trans rfl
                        have hcz163_2 : w162.cell? ⟨gb507, 2, none⟩ = some (.int .i64 ((rd_T51 l1 x181_4).f1.f0)) := (blk_cell BK507.out 2).trans rfl
                        have hcz163_3 : w162.cell? ⟨gb507, 3, none⟩ = some (.int .i64 ((rd_T51 l1 x181_4).f1.f1)) := (blk_cell BK507.out 3).trans rfl
                        have hfz163_0 := blk_frozen BK507.out 0
                        have hfz163_1 := blk_frozen BK507.out 1
                        have hfz163_2 := blk_frozen BK507.out 2
                        have hfz163_3 := blk_frozen BK507.out 3
                        try go_wp2
                        go_roundg k4
                        case measure => have := HJ6.out; have := HJ23.out; have := HJ107.out; have := HK4.out; omega
                        case rel => exact ⟨(false), (wrap64 (x181_4 + 1)), (by first | rfl | (simp; done) | (simp [*]; done)), (by first | rfl | (simp; done) | (simp [*]; done)), H', ⟨by have := HJ6.out; have := HJ23.out; have := HJ107.out; have := HK4.out; omega⟩, ⟨by (with_reducible repeat (first | apply Kd.V_alloc | apply Kd.V_drewN | apply Kd.V_drew)); exact Kd.V_mono HO_3.out (fun _ hk => ⟨hk.1, hk.2.1⟩)⟩, ⟨rl_ (Kd.R_mono HO_12.out (fun _ hk => hk.1))⟩, ⟨bl_⟩⟩
                      ·replace c128 := Bool.eq_false_iff.mpr c128
                       subst c128
                       have H1 : (waterhourlaw04_RefillWithout.l0 k4 l0 l3 t496 false l1 (l1.length : Int) (wrap64 (x181_4 + 1))) = some r := by rw [if_neg (show ¬ (false = true) by decide)] at H; exact H
                       clear H
                       have H := H1
                       clear H1
                       have H' := a_ H
                       clear H
                       have p506 : 0 ≤ (x181_4 : Int) := of_decide_eq_true (by first | (with_reducible assumption) | assumption)
                       have q506 : x181_4 < (l1.length : Int) := of_decide_eq_true (by first | (with_reducible assumption) | assumption)
                       obtain ⟨ad506, e506, hx506_0, hx506_1, hx506_2, hx506_3⟩ := at_T51 HR1.out x181_4 p506 q506
                       cases e506
                       replace hx506_0 := (HB.out.cell (World.block_lt_of_cell? w _ hx506_0)).trans hx506_0
                       replace hx506_1 := (HB.out.cell (World.block_lt_of_cell? w _ hx506_1)).trans hx506_1
                       replace hx506_2 := (HB.out.cell (World.block_lt_of_cell? w _ hx506_2)).trans hx506_2
                       replace hx506_3 := (HB.out.cell (World.block_lt_of_cell? w _ hx506_3)).trans hx506_3
                       replace p506 := eq_true p506
                       replace q506 := eq_true q506
                       try go_wp2_with (first | ((with_reducible refine gate_dst (N := 16) rfl ?_); (try (refine gate_guard (by rfl) ?_; dsimp only)); refine box_event ?hg (N := 16) ?hd (cs := #[.int .i64 0, .int .i64 0, .int .i64 0, .int .i64 0]) (t := 51) ?hr ?_; (case hd => rfl); (case hg => rfl); (case hr => first | (go_simp; done) | (go_simp; rfl)); intro gb507 hg w164 hbox hb; have n0_ := a_ (Kd.V_below (Kd.V_elderB (vl_ HO_3.out) gb507 (Nat.le_of_eq hg.symm)) hb); have n1_ := a_ (Kd.R_below (Kd.R_elderB (rl_ HO_12.out) gb507 (Nat.le_of_eq hg.symm)) hb); have n2_ := a_ (below_step bl_ hb); have n3_ := a_ (hbox); have n4_ := a_ ((bz_ (w := w) hg)); have n5_ := a_ ((bz_ (w := w) hg)); clear HO_3; clear HO_12; clear HB; have HO_3 := n0_; have HO_12 := n1_; have HB := n2_; have BK507 := n3_; have GW507 := n4_; have GE507 := n5_; clear n0_ n1_ n2_ n3_ n4_ n5_; clear hb hbox hg; have hcz165_0 : w164.cell? ⟨gb507, 0, none⟩ = some (.int .i64 0) := (blk_cell BK507.out 0).trans rfl; have hcz165_1 : w164.cell? ⟨gb507, 1, none⟩ = some (.int .i64 0) := (blk_cell BK507.out 1).trans rfl; have hcz165_2 : w164.cell? ⟨gb507, 2, none⟩ = some (.int .i64 0) := (blk_cell BK507.out 2).trans rfl; have hcz165_3 : w164.cell? ⟨gb507, 3, none⟩ = some (.int .i64 0) := (blk_cell BK507.out 3).trans rfl; have hfz165_0 := blk_frozen BK507.out 0; have hfz165_1 := blk_frozen BK507.out 1; have hfz165_2 := blk_frozen BK507.out 2; have hfz165_3 := blk_frozen BK507.out 3))
                       have n0_ : Aside0 (Kd.V (Kd.int .i64) 3 ((((w164.setCell ⟨gb507, 0, none⟩ (.int .i64 ((rd_T51 l1 x181_4).f0.f0))).setCell ⟨gb507, 1, none⟩ (.int .i64 ((rd_T51 l1 x181_4).f0.f1))).setCell ⟨gb507, 2, none⟩ (.int .i64 ((rd_T51 l1 x181_4).f1.f0))).setCell ⟨gb507, 3, none⟩ (.int .i64 ((rd_T51 l1 x181_4).f1.f1))) w.heap.size (fun k_ => (P3_ k_ ∨ w.heap.size ≤ k_) ∧ some k_ ≠ (v497 : Value).ownBlock ∧ k_ ≠ gb507) (.slice A3 l3.length c3) l3) := ⟨by (with_reducible repeat (first | apply Kd.V_alloc | apply Kd.V_drewN | apply Kd.V_drew)); exact Kd.V_mono (Kd.V_far (p := ⟨gb507, 3, none⟩) (Kd.V_far (p := ⟨gb507, 2, none⟩) (Kd.V_far (p := ⟨gb507, 1, none⟩) (Kd.V_far (p := ⟨gb507, 0, none⟩) (Kd.V_mono HO_3.out (fun k_ hk => (⟨hk, hk.2⟩ : _ ∧ k_ ≠ gb507))) (fun _ hk => hk.2) (.int .i64 ((rd_T51 l1 x181_4).f0.f0))) (fun _ hk => hk.2) (.int .i64 ((rd_T51 l1 x181_4).f0.f1))) (fun _ hk => hk.2) (.int .i64 ((rd_T51 l1 x181_4).f1.f0))) (fun _ hk => hk.2) (.int .i64 ((rd_T51 l1 x181_4).f1.f1))) (fun _ hk => ⟨hk.1.1.1, ⟨hk.1.1.2, hk.1.2⟩⟩)⟩
                       have n1_ : Aside0 (Kd.R k51 51 ((((w164.setCell ⟨gb507, 0, none⟩ (.int .i64 ((rd_T51 l1 x181_4).f0.f0))).setCell ⟨gb507, 1, none⟩ (.int .i64 ((rd_T51 l1 x181_4).f0.f1))).setCell ⟨gb507, 2, none⟩ (.int .i64 ((rd_T51 l1 x181_4).f1.f0))).setCell ⟨gb507, 3, none⟩ (.int .i64 ((rd_T51 l1 x181_4).f1.f1))) w.heap.size (fun k_ => (w.heap.size ≤ k_) ∧ k_ ≠ gb507) v497 t496) := ⟨by (with_reducible repeat (first | apply Kd.R_alloc | apply Kd.R_drewN | apply Kd.R_drew)); exact Kd.R_mono (Kd.R_far (p := ⟨gb507, 3, none⟩) (Kd.R_far (p := ⟨gb507, 2, none⟩) (Kd.R_far (p := ⟨gb507, 1, none⟩) (Kd.R_far (p := ⟨gb507, 0, none⟩) (Kd.R_mono HO_12.out (fun k_ hk => (⟨hk, hk.2⟩ : _ ∧ k_ ≠ gb507))) (fun _ hk => hk.2) (.int .i64 ((rd_T51 l1 x181_4).f0.f0))) (fun _ hk => hk.2) (.int .i64 ((rd_T51 l1 x181_4).f0.f1))) (fun _ hk => hk.2) (.int .i64 ((rd_T51 l1 x181_4).f1.f0))) (fun _ hk => hk.2) (.int .i64 ((rd_T51 l1 x181_4).f1.f1))) (fun _ hk => ⟨hk.1.1, hk.1.2⟩)⟩
                       have n2_ : Aside0 (((((w164.setCell ⟨gb507, 0, none⟩ (.int .i64 ((rd_T51 l1 x181_4).f0.f0))).setCell ⟨gb507, 1, none⟩ (.int .i64 ((rd_T51 l1 x181_4).f0.f1))).setCell ⟨gb507, 2, none⟩ (.int .i64 ((rd_T51 l1 x181_4).f1.f0))).setCell ⟨gb507, 3, none⟩ (.int .i64 ((rd_T51 l1 x181_4).f1.f1))).heap[gb507]? = some (.cells #[.int .i64 ((rd_T51 l1 x181_4).f0.f0), .int .i64 ((rd_T51 l1 x181_4).f0.f1), .int .i64 ((rd_T51 l1 x181_4).f1.f0), .int .i64 ((rd_T51 l1 x181_4).f1.f1)] 51 (0, 0))) := ⟨by (with_reducible repeat (first | refine blk_drewN ?_ _ | refine blk_drew ?_ | refine blk_alloc ?_ _)); refine blk_put (cs := #[.int .i64 ((rd_T51 l1 x181_4).f0.f0), .int .i64 ((rd_T51 l1 x181_4).f0.f1), .int .i64 ((rd_T51 l1 x181_4).f1.f0), .int .i64 0]) ?_ 3 _ rfl; (with_reducible repeat (first | refine blk_drewN ?_ _ | refine blk_drew ?_ | refine blk_alloc ?_ _)); refine blk_put (cs := #[.int .i64 ((rd_T51 l1 x181_4).f0.f0), .int .i64 ((rd_T51 l1 x181_4).f0.f1), .int .i64 0, .int .i64 0]) ?_ 2 _ rfl; (with_reducible repeat (first | refine blk_drewN ?_ _ | refine blk_drew ?_ | refine blk_alloc ?_ _)); refine blk_put (cs := #[.int .i64 ((rd_T51 l1 x181_4).f0.f0), .int .i64 0, .int .i64 0, .int .i64 0]) ?_ 1 _ rfl; (with_reducible repeat (first | refine blk_drewN ?_ _ | refine blk_drew ?_ | refine blk_alloc ?_ _)); refine blk_put (cs := #[.int .i64 0, .int .i64 0, .int .i64 0, .int .i64 0]) ?_ 0 _ rfl; (with_reducible repeat (first | refine blk_drewN ?_ _ | refine blk_drew ?_ | refine blk_alloc ?_ _)); exact BK507.out⟩
                       have n3_ : Aside0 (Below w.heap.size w ((((w164.setCell ⟨gb507, 0, none⟩ (.int .i64 ((rd_T51 l1 x181_4).f0.f0))).setCell ⟨gb507, 1, none⟩ (.int .i64 ((rd_T51 l1 x181_4).f0.f1))).setCell ⟨gb507, 2, none⟩ (.int .i64 ((rd_T51 l1 x181_4).f1.f0))).setCell ⟨gb507, 3, none⟩ (.int .i64 ((rd_T51 l1 x181_4).f1.f1)))) := ⟨bl_⟩
                       (try clear HO_3)
                       (try clear HO_12)
                       (try clear BK507)
                       (try clear HB)
                       generalize ((((w164.setCell ⟨gb507, 0, none⟩ (.int .i64 ((rd_T51 l1 x181_4).f0.f0))).setCell ⟨gb507, 1, none⟩ (.int .i64 ((rd_T51 l1 x181_4).f0.f1))).setCell ⟨gb507, 2, none⟩ (.int .i64 ((rd_T51 l1 x181_4).f1.f0))).setCell ⟨gb507, 3, none⟩ (.int .i64 ((rd_T51 l1 x181_4).f1.f1))) = w166 at n0_ n1_ n2_ n3_ ⊢
                       have HO_3 := n0_
                       have HO_12 := n1_
                       have BK507 := n2_
                       have HB := n3_
                       clear n0_ n1_ n2_ n3_
                       have n0_ := a_ (Kd.V_drew HO_3.out)
                       have n1_ := a_ (Kd.R_drew HO_12.out)
                       have n2_ := a_ (blk_drew BK507.out)
                       have n3_ := a_ (below_drew1 HB.out)
                       clear HO_3
                       clear HO_12
                       clear BK507
                       clear HB
                       have HO_3 := n0_
                       have HO_12 := n1_
                       have BK507 := n2_
                       have HB := n3_
                       clear n0_ n1_ n2_ n3_
                       have p508 : 0 ≤ ((ji122) : Int) := of_decide_eq_true (by first | (with_reducible assumption) | assumption)
                       have q508 : (ji122) < (l3.length : Int) := of_decide_eq_true (by first | (with_reducible assumption) | assumption)
                       obtain ⟨ad508, e508, hx508_0⟩ := Kd.at_int (Kd.V_reads' HO_3.out).2.2 (ji122) p508 q508
                       cases e508
                       replace p508 := eq_true p508
                       replace q508 := eq_true q508
                       have p509 : 0 ≤ ((ji125) : Int) := of_decide_eq_true (by first | (with_reducible assumption) | assumption)
                       have q509 : (ji125) < (l3.length : Int) := of_decide_eq_true (by first | (with_reducible assumption) | assumption)
                       obtain ⟨ad509, e509, hx509_0⟩ := Kd.at_int (Kd.V_reads' HO_3.out).2.2 (ji125) p509 q509
                       obtain rfl : ad508 = ad509 := (by injection e509)
                       replace p509 := eq_true p509
                       replace q509 := eq_true q509
                       have p510 : 0 ≤ ((ji122) : Int) := of_decide_eq_true (by first | (with_reducible assumption) | assumption)
                       have q510 : (ji122) < (l3.length : Int) := of_decide_eq_true (by first | (with_reducible assumption) | assumption)
                       obtain ⟨ad510, e510, hx510_0⟩ := Kd.at_int (Kd.V_reads' HO_3.out).2.2 (ji122) p510 q510
                       obtain rfl : ad508 = ad510 := (by injection e510)
                       replace p510 := eq_true p510
                       replace q510 := eq_true q510
                       refine start_ (n := 25) (S := fun w' => w'.cell? (ad508.add ((ji122)).toNat) = some (.int .i64 (rd l3 (ji122))) ∧ w'.cell? (ad508.add ((ji125)).toNat) = some (.int .i64 (rd l3 (ji125))) ∧ w'.cell? (ad508.add ((ji122)).toNat) = some (.int .i64 (rd l3 (ji122)))) (ds := []) #[false, false, false, false, false, false, false, false, false, false, false, false, false, false, false, false, false, false, false, false, false, false, false, false, false] (by kernel_rfl) rfl rfl ⟨hx508_0, hx509_0, hx510_0⟩ (fun hHeld => ?_); refine with_tabW waterhourlaw04_RefillWithout.tab28 waterhourlaw04_RefillWithout.bits28 (fun HT_ HW_ => ?_)
                       generalize w166.drew = w167 at HO_3 HO_12 BK507 HB hx508_0 hx509_0 hx510_0 hHeld ⊢
                       refine pz_ 0 186 HT_ ?_
                       refine pz_ 1 187 HT_ ?_
                       refine pz_ 2 188 HT_ ?_
                       refine pz_ 3 189 HT_ ?_
                       refine pz_ 4 190 HT_ ?_
                       refine pz_ 5 191 HT_ ?_
                       refine pz_ 7 193 HT_ ?_
                       refine pz_ 8 194 HT_ ?_
                       refine pz_ 9 195 HT_ ?_
                       refine pz_ 10 196 HT_ ?_
                       refine pz_ 11 197 HT_ ?_
                       refine pz_ 12 198 HT_ ?_
                       refine pz_ 13 199 HT_ ?_
                       refine pz_ 16 202 HT_ ?_
                       refine pz_ 17 203 HT_ ?_
                       refine pz_ 18 204 HT_ ?_
                       refine pz_ 19 205 HT_ ?_
                       refine pz_ 20 206 HT_ ?_
                       refine pz_ 21 207 HT_ ?_
                       refine take_ (i := 6) (N := some 192) (v := ?_) (a' := ?_) #[true, true, true, true, true, true, true, true, true, true, true, true, true, true, false, false, true, true, true, true, true, true, false, false, false] rfl rfl (take_ofW HT_.out HW_.out (by kernel_rfl)) (fun _ _ _ h => h) (Or.inl ⟨by rfl, ?_⟩) hHeld ?_ ?_
                       rotate_left
                       ·rintro w' ⟨s0, s1, s2⟩
                        go_simp
                        with_reducible rfl
                       rotate_left
                       ·simp only [Act.put, List.setIfInBounds_toArray, List.set_cons_zero, List.set_cons_succ, i64_w, i32_w]
                        rfl
                       refine take_ (i := 14) (N := some 200) (v := ?_) (a' := ?_) #[true, true, true, true, true, true, true, true, true, true, true, true, true, true, true, false, true, true, true, true, true, true, false, false, false] rfl rfl (take_ofW HT_.out HW_.out (by kernel_rfl)) (fun _ _ _ h => h) (Or.inl ⟨by rfl, ?_⟩) hHeld ?_ ?_
                       rotate_left
                       ·rintro w' ⟨s0, s1, s2⟩
                        go_simp
                        with_reducible rfl
                       rotate_left
                       ·simp only [Act.put, List.setIfInBounds_toArray, List.set_cons_zero, List.set_cons_succ, i64_w, i32_w]
                        rfl
                       refine pz_ 15 201 HT_ ?_
                       refine pz_ 23 17 HT_ ?_
                       refine take_ (i := 22) (N := some 208) (v := ?_) (a' := ?_) #[true, true, true, true, true, true, true, true, true, true, true, true, true, true, true, true, true, true, true, true, true, true, true, true, false] rfl rfl (take_ofW HT_.out HW_.out (by kernel_rfl)) (fun _ _ _ h => h) (Or.inl ⟨by rfl, ?_⟩) hHeld ?_ ?_
                       rotate_left
                       ·rintro w' ⟨s0, s1, s2⟩
                        go_simp
                        with_reducible rfl
                       rotate_left
                       ·simp only [Act.put, List.setIfInBounds_toArray, List.set_cons_zero, List.set_cons_succ, i64_w, i32_w]
                        rfl
                       refine pz_ 24 18 HT_ ?_
                       refine done_ (done_of HT_.out (by kernel_rfl)) ?_
                       try go_wp2
                       go_roundg k4
                       case measure => have := HJ6.out; have := HJ23.out; have := HJ107.out; have := HK4.out; omega
                       case rel => exact ⟨(false), (wrap64 (x181_4 + 1)), (by first | rfl | (simp; done) | (simp [*]; done)), (by first | rfl | (simp; done) | (simp [*]; done)), H', ⟨by have := HJ6.out; have := HJ23.out; have := HJ107.out; have := HK4.out; omega⟩, ⟨by (with_reducible repeat (first | apply Kd.V_alloc | apply Kd.V_drewN | apply Kd.V_drew)); exact Kd.V_mono HO_3.out (fun _ hk => ⟨hk.1, hk.2.1⟩)⟩, ⟨rl_ (Kd.R_mono HO_12.out (fun _ hk => hk.1))⟩, ⟨bl_⟩⟩
                     ·rw [if_neg c127] at H
                      exact absurd H (by simp)
                    ·rw [if_neg c126] at H
                     exact absurd H (by simp)
                   ·rw [if_neg c124] at H
                    exact absurd H (by simp)
                  ·rw [if_neg c123] at H
                   exact absurd H (by simp)
                 ·rw [if_neg c121] at H
                  exact absurd H (by simp)
                ·rw [if_neg c120] at H
                 exact absurd H (by simp)
               ·rw [if_neg c119] at H
                have c119b0 : decide (x181_4 < (l1.length : Int)) = false := decide_eq_false c119
                clear c119
                replace H := Option.bind_eq_some_iff.mp H
                obtain ⟨t512, A1680, H⟩ := H
                replace H : (some ((t512 == 0) == x14_4)) = some r := H
                have A168 := a_ A1680
                clear A1680
                obtain rfl := Option.some.inj H
                obtain ⟨Ao169, co169, eo169⟩ := Kd.R_slice HO_12.out
                subst eo169
                go_wp2_with (first | ((with_reducible refine gate_callee (f := 33) rfl ?_); refine goesL_ (some 247) rfl rfl Tryd.func33 (by kernel_rfl) rfl #[.slice Ao169 t496.length co169, .slice A3 l3.length c3] rfl tm_ ?_; (with_reducible refine (refill_CheckTimes.calls _ _ t496 _ _ l3 t512 _ ?side1 ?side2 ?side3 ?side4 A168.out).mono ?_); (case side1 => exact cl_ ((Kd.R_reads' HO_12.out).2.2)); (case side2 => exact (Kd.R_reads' HO_12.out).2.1); (case side3 => exact cl_ ((Kd.V_reads' HO_3.out).2.2)); (case side4 => exact (Kd.V_reads' HO_3.out).2.1); rintro e w170 ⟨rfl, hb⟩; refine ⟨_, rfl, ?_⟩; have n0_ := a_ (Kd.V_below (vl_ HO_3.out) hb); have n1_ := a_ (Kd.R_below (rl_ HO_12.out) hb); have n2_ := a_ (below_step bl_ hb); clear HO_3; clear HO_12; clear HB; have HO_3 := n0_; have HO_12 := n1_; have HB := n2_; clear n0_ n1_ n2_; (try clear hb); (try clear hb2); (try clear hk); (try clear hi)))
                go_ret
                exact ⟨by first | rfl | (simp [errW_none, errW_some] <;> rfl) | (simp [*, errW_none, errW_some] <;> rfl), bl_⟩
            ·rw [if_neg c115] at H
             exact absurd H (by simp)
           ·rw [if_neg c114] at H
            exact absurd H (by simp)
       ·rw [if_neg c107] at H
        have c107b0 : (t499 == 0) = false := beq_eq_false_iff_ne.mpr c107
        have c107b1 : (t499 != 0) = true := bne_iff_ne.mpr c107
        by_cases c171 : t499 = 2
        ·rw [if_pos c171] at H
         have c171b0 : (t499 == 2) = true := beq_iff_eq.mpr c171
         have c171b1 : (t499 != 2) = false := bne_eq_false_iff_eq.mpr c171
         clear c171
         obtain rfl := Option.some.inj H
         go_wp2_with (first | ((with_reducible refine gate_callee (f := 39) rfl ?_); refine goesL_ (some 143) rfl rfl Tryd.func39 (by kernel_rfl) rfl #[.slice A0 l0.length c0, .slice A1 l1.length c1] rfl tm_ ?_; (with_reducible refine (refill_Joined.calls kj23 (fun k_ => k_ < w.heap.size) _ _ l0 (fun k_ => k_ < w.heap.size) _ _ l1 t496 t499 _ ?side1 ?side2 A106.out).mono ?_); (case side1 => exact Kd.V_mk HC0.out (Kd.F_below (Kd.C_F k51_heap HR0.out) bl_)); (case side2 => exact Kd.V_mk HC1.out (Kd.F_below (Kd.C_F k51_heap HR1.out) bl_)); rintro e w172 ⟨v497, rfl, ho0, hb⟩; refine ⟨_, rfl, ?_⟩; have n0_ := a_ (Kd.V_elder' (vl_ HO_3.out) (Kd.R_base ho0) hb); have n1_ := a_ (Kd.R_lower (Kd.R_newM (M := fun k_ => (w.heap.size ≤ k_)) (Kd.R_mono (ok' := fun k_ => True) ho0 (fun _ hk_ => trivial)) (below_size bl_) (fun k_ h_ => h_)) (below_size bl_)); have n2_ := a_ (below_step bl_ hb); clear HO_3; clear HB; have HO_3 := n0_; have HO498 := n1_; have HB := n2_; clear n0_ n1_ n2_; (try clear hb); (try clear hb2); (try clear hk); (try clear hi); (try clear ho0); obtain ⟨Ao173, co173, eo173⟩ := Kd.R_slice HO498.out; subst eo173))
         go_ret
         exact ⟨by first | rfl | (simp [errW_none, errW_some] <;> rfl) | (simp [*, errW_none, errW_some] <;> rfl), bl_⟩
        ·rw [if_neg c171] at H
         have c171b0 : (t499 == 2) = false := beq_eq_false_iff_ne.mpr c171
         have c171b1 : (t499 != 2) = true := bne_iff_ne.mpr c171
         exact absurd (H.trans (congrArg some hrt.out)) (by simp)
 ·replace c6 := Bool.eq_false_iff.mpr c6
  subst c6
  have H1 : (some false) = some r := by rw [if_neg (show ¬ (false = true) by decide)] at H; exact H
  clear H
  have H := H1
  clear H1
  exact absurd (H.trans (congrArg some hrt.out)) (by simp)

end Go.Proofs.YtgiihjcpgjpkcaaDoor.Q
