/- Contracts of functions of the given program: each Go function as a plain Lean function (name.f) and the proof that its call answers just so, for every reading of its arguments. Written by the session's program wip/xprint.py out of the translation. -/
import Derived.Test.YtgiihjcpgjpkcaaDoorQ0
import Derived.Test.YtgiihjcpgjpkcaaDoorQC
import Derived.Test.YtgiihjcpgjpkcaaDoorQF
import Derived.Test.YtgiihjcpgjpkcaaDoorQH
import Derived.Test.YtgiihjcpgjpkcaaDoorQO
import Derived.Test.YtgiihjcpgjpkcaaDoorHCheck
import Derived.Test.YtgiihjcpgjpkcaaDoorHKnown
import Derived.Test.YtgiihjcpgjpkcaaDoorHSane
namespace Go.Proofs.YtgiihjcpgjpkcaaDoor.Q
open Go.RowKit Go.Proofs.YtgiihjcpgjpkcaaDoorW.PrintWords Go.Proofs.YtgiihjcpgjpkcaaDoorW.PrintLast Go.Proofs.YtgiihjcpgjpkcaaDoorW.PrintMore
attribute [local go_sem] max2_int min2_int max_two min_two max_three min_three max_four min_four   -- for this text's walks alone
set_option linter.unusedVariables false
set_option linter.unusedSimpArgs false

/-! ### waterhourlaw04_RefillAttained: function 9 -/
mutual
def waterhourlaw04_RefillAttained.j0 : Nat → List (S51) → Int → Int → Int → Int → Int → Bool → Option (Bool)
 | 0, _, _, _, _, _, _, _ => none
 | k + 1, x0, x1, x2, x3, x4, x5, x40 => if x40 = true then (some true) else ((refill_Time.f k x0 x1).bind fun bt557 => ((refill_Attain.f k x0 x1 x2).bind fun bt561 => (if bt561.2.2 = 0 then (if bt557.2.2 = 0 then (waterhourlaw04_RefillAttained.j1 k x0 x1 x2 x3 x4 x5 bt557.2.2 bt561.1 bt561.2.1 false bt557.1 bt557.2.1) else (waterhourlaw04_RefillAttained.j1 k x0 x1 x2 x3 x4 x5 bt557.2.2 bt561.1 bt561.2.1 (bt557.2.2 != 31) bt557.1 bt557.2.1)) else (waterhourlaw04_RefillAttained.j1 k x0 x1 x2 x3 x4 x5 bt557.2.2 bt561.1 bt561.2.1 true bt557.1 bt557.2.1))))
def waterhourlaw04_RefillAttained.j1 : Nat → List (S51) → Int → Int → Int → Int → Int → Int → List Int → Bool → Bool → Int → Int → Option (Bool)
 | 0, _, _, _, _, _, _, _, _, _, _, _, _ => none
 | k + 1, x0, x1, x2, x3, x4, x5, x14, x15, x16, x64, x561000, x561001 => if x64 = true then (some false) else (if x14 = 31 then (if x16 = true then (some false) else (some ((x15.length : Int) == 0))) else (if x2 ≥ x561000 then (if (x16 != (decide (x2 ≤ x561001))) = true then (waterhourlaw04_RefillAttained.j2 k x0 x3 x4 x5 true) else (if x16 = true then ((refill_CheckTimes.f x0 x15).bind fun t566 => (if t566 = 0 then (if 0 ≤ x1 then (if x1 < (x15.length : Int) then (waterhourlaw04_RefillAttained.j2 k x0 x3 x4 x5 ((rd x15 x1) != x2)) else (none)) else (none)) else (waterhourlaw04_RefillAttained.j2 k x0 x3 x4 x5 true))) else (waterhourlaw04_RefillAttained.j2 k x0 x3 x4 x5 false))) else (if (x16 != false) = true then (waterhourlaw04_RefillAttained.j2 k x0 x3 x4 x5 true) else (if x16 = true then ((refill_CheckTimes.f x0 x15).bind fun t568 => (if t568 = 0 then (if 0 ≤ x1 then (if x1 < (x15.length : Int) then (waterhourlaw04_RefillAttained.j2 k x0 x3 x4 x5 ((rd x15 x1) != x2)) else (none)) else (none)) else (waterhourlaw04_RefillAttained.j2 k x0 x3 x4 x5 true))) else (waterhourlaw04_RefillAttained.j2 k x0 x3 x4 x5 false)))))
def waterhourlaw04_RefillAttained.j2 : Nat → List (S51) → Int → Int → Int → Bool → Option (Bool)
 | 0, _, _, _, _, _ => none
 | k + 1, x0, x3, x4, x5, x102 => if x102 = true then (some false) else ((waterhourref04_Event.f x0 x3 0).bind fun t570 => (if t570 = true then ((waterhourref04_Event.f x0 x4 0).bind fun t571 => (if t571 = true then (waterhourlaw04_RefillAttained.j3 k x0 x3 x4 x5 (decide (x3 ≥ x4))) else (waterhourlaw04_RefillAttained.j3 k x0 x3 x4 x5 true))) else (waterhourlaw04_RefillAttained.j3 k x0 x3 x4 x5 true)))
def waterhourlaw04_RefillAttained.j3 : Nat → List (S51) → Int → Int → Int → Bool → Option (Bool)
 | 0, _, _, _, _, _ => none
 | k + 1, x0, x3, x4, x5, x117 => if x117 = true then (some true) else ((refill_Between.f k x0 x3 x4).bind fun bt572 => ((refill_Time.f k x0 x3).bind fun bt576 => ((refill_Time.f k x0 x4).bind fun bt580 => (if bt572.2.2 = 0 then (if bt576.2.2 = 0 then (if bt580.2.2 = 0 then (waterhourlaw04_RefillAttained.j4 k x0 x3 x4 x5 (decide (bt572.1 > bt572.2.1)) bt572.1 bt572.2.1 bt576.1 bt576.2.1 bt580.1 bt580.2.1) else (waterhourlaw04_RefillAttained.j4 k x0 x3 x4 x5 true bt572.1 bt572.2.1 bt576.1 bt576.2.1 bt580.1 bt580.2.1)) else (waterhourlaw04_RefillAttained.j4 k x0 x3 x4 x5 true bt572.1 bt572.2.1 bt576.1 bt576.2.1 bt580.1 bt580.2.1)) else (waterhourlaw04_RefillAttained.j4 k x0 x3 x4 x5 true bt572.1 bt572.2.1 bt576.1 bt576.2.1 bt580.1 bt580.2.1)))))
def waterhourlaw04_RefillAttained.j4 : Nat → List (S51) → Int → Int → Int → Bool → Int → Int → Int → Int → Int → Int → Option (Bool)
 | 0, _, _, _, _, _, _, _, _, _, _, _ => none
 | k + 1, x0, x3, x4, x5, x153, x576000, x576001, x580000, x580001, x584000, x584001 => if x153 = true then (some false) else ((some (([x576000, x576001, mn (mx x5 x576000) x576001] : List Int) : List Int)).bind fun y584 => (waterhourlaw04_RefillAttained.l0 k x0 x3 x4 y584 (y584.length : Int) 0 x580000 x580001 x584000 x584001))
def waterhourlaw04_RefillAttained.l0 : Nat → List (S51) → Int → Int → List Int → Int → Int → Int → Int → Int → Int → Option (Bool)
 | 0, _, _, _, _, _, _, _, _, _, _ => none
 | k + 1, x0, x3, x4, x165, x166, x167, x580000, x580001, x584000, x584001 => if x167 < x166 then (if 0 ≤ x167 then (if x167 < (x165.length : Int) then ((refill_Known.f x0 x3 (mx x580000 (wrap64 (x584000 - (rd x165 x167)))) (mx x580000 (wrap64 (x584000 - (rd x165 x167))))).bind fun bt588 => (if bt588.2 = 0 then ((refill_Attain.f k bt588.1 x4 (wrap64 ((mx x580000 (wrap64 (x584000 - (rd x165 x167)))) + (rd x165 x167)))).bind fun bt592 => (if bt592.2.2 = 0 then (if bt592.2.1 = true then ((refill_CheckTimes.f x0 bt592.1).bind fun t597 => (if t597 = 0 then (if 0 ≤ x4 then (if x4 < (bt592.1.length : Int) then (if 0 ≤ x3 then (if x3 < (bt592.1.length : Int) then (if (wrap64 ((rd bt592.1 x4) - (rd bt592.1 x3))) = (rd x165 x167) then (waterhourlaw04_RefillAttained.l0 k x0 x3 x4 x165 x166 (wrap64 (x167 + 1)) x580000 x580001 x584000 x584001) else (some false)) else (none)) else (none)) else (none)) else (none)) else (some false))) else (some false)) else (some false))) else (some false))) else (none)) else (none)) else (some true)
end
def waterhourlaw04_RefillAttained.f (k : Nat) (l0 : List (S51)) (a1 : Int) (a2 : Int) (a3 : Int) (a4 : Int) (a5 : Int) : Option (Bool) := (law_sane.f).bind fun t554 => (if t554 = true then ((waterhourref04_Valid.f k l0).bind fun t555 => (if t555 = true then ((waterhourref04_Event.f l0 a1 0).bind fun t556 => (waterhourlaw04_RefillAttained.j0 k l0 a1 a2 a3 a4 a5 (!t556))) else (waterhourlaw04_RefillAttained.j0 k l0 a1 a2 a3 a4 a5 true))) else (some false))
theorem waterhourlaw04_RefillAttained.mono_l : ∀ k, (∀ y0 y1 y2 y3 y4 y5 y6, LeO (waterhourlaw04_RefillAttained.j0 k y0 y1 y2 y3 y4 y5 y6) (waterhourlaw04_RefillAttained.j0 (k + 1) y0 y1 y2 y3 y4 y5 y6)) ∧ (∀ y0 y1 y2 y3 y4 y5 y6 y7 y8 y9 y10 y11, LeO (waterhourlaw04_RefillAttained.j1 k y0 y1 y2 y3 y4 y5 y6 y7 y8 y9 y10 y11) (waterhourlaw04_RefillAttained.j1 (k + 1) y0 y1 y2 y3 y4 y5 y6 y7 y8 y9 y10 y11)) ∧ (∀ y0 y1 y2 y3 y4, LeO (waterhourlaw04_RefillAttained.j2 k y0 y1 y2 y3 y4) (waterhourlaw04_RefillAttained.j2 (k + 1) y0 y1 y2 y3 y4)) ∧ (∀ y0 y1 y2 y3 y4, LeO (waterhourlaw04_RefillAttained.j3 k y0 y1 y2 y3 y4) (waterhourlaw04_RefillAttained.j3 (k + 1) y0 y1 y2 y3 y4)) ∧ (∀ y0 y1 y2 y3 y4 y5 y6 y7 y8 y9 y10, LeO (waterhourlaw04_RefillAttained.j4 k y0 y1 y2 y3 y4 y5 y6 y7 y8 y9 y10) (waterhourlaw04_RefillAttained.j4 (k + 1) y0 y1 y2 y3 y4 y5 y6 y7 y8 y9 y10)) ∧ (∀ y0 y1 y2 y3 y4 y5 y6 y7 y8 y9, LeO (waterhourlaw04_RefillAttained.l0 k y0 y1 y2 y3 y4 y5 y6 y7 y8 y9) (waterhourlaw04_RefillAttained.l0 (k + 1) y0 y1 y2 y3 y4 y5 y6 y7 y8 y9))
 | 0 => ⟨fun _ _ _ _ _ _ _ r h => by simp [waterhourlaw04_RefillAttained.j0] at h, fun _ _ _ _ _ _ _ _ _ _ _ _ r h => by simp [waterhourlaw04_RefillAttained.j1] at h, fun _ _ _ _ _ r h => by simp [waterhourlaw04_RefillAttained.j2] at h, fun _ _ _ _ _ r h => by simp [waterhourlaw04_RefillAttained.j3] at h, fun _ _ _ _ _ _ _ _ _ _ _ r h => by simp [waterhourlaw04_RefillAttained.j4] at h, fun _ _ _ _ _ _ _ _ _ _ r h => by simp [waterhourlaw04_RefillAttained.l0] at h⟩
 | k + 1 => by
  obtain ⟨ih0, ih1, ih2, ih3, ih4, ih5⟩ := waterhourlaw04_RefillAttained.mono_l k
  refine ⟨?_, ?_, ?_, ?_, ?_, ?_⟩
  ·intro y0 y1 y2 y3 y4 y5 y6
   unfold waterhourlaw04_RefillAttained.j0
   repeat' first
   | (with_reducible exact ih0 _ _ _ _ _ _ _)
   | (with_reducible exact ih1 _ _ _ _ _ _ _ _ _ _ _ _)
   | (with_reducible exact ih2 _ _ _ _ _)
   | (with_reducible exact ih3 _ _ _ _ _)
   | (with_reducible exact ih4 _ _ _ _ _ _ _ _ _ _ _)
   | (with_reducible exact ih5 _ _ _ _ _ _ _ _ _ _)
   | (with_reducible exact refill_Attain.mono _ _ _ _)
   | (with_reducible exact refill_Between.mono _ _ _ _)
   | (with_reducible exact refill_Time.mono _ _ _)
   | (with_reducible exact waterhourref04_Valid.mono _ _)
   | (with_reducible exact LeO.refl _)
   | (with_reducible exact LeO.none _)
   | (with_reducible refine LeO.ite ?_ ?_)
   | (with_reducible refine LeO.bind ?_ (fun _ => ?_))
   | exact ih0 _ _ _ _ _ _ _
   | exact ih1 _ _ _ _ _ _ _ _ _ _ _ _
   | exact ih2 _ _ _ _ _
   | exact ih3 _ _ _ _ _
   | exact ih4 _ _ _ _ _ _ _ _ _ _ _
   | exact ih5 _ _ _ _ _ _ _ _ _ _
   | exact refill_Attain.mono _ _ _ _
   | exact refill_Between.mono _ _ _ _
   | exact refill_Time.mono _ _ _
   | exact waterhourref04_Valid.mono _ _
   | exact LeO.none _
   | refine LeO.ite ?_ ?_
   | refine LeO.bind ?_ (fun _ => ?_)
  ·intro y0 y1 y2 y3 y4 y5 y6 y7 y8 y9 y10 y11
   unfold waterhourlaw04_RefillAttained.j1
   repeat' first
   | (with_reducible exact ih0 _ _ _ _ _ _ _)
   | (with_reducible exact ih1 _ _ _ _ _ _ _ _ _ _ _ _)
   | (with_reducible exact ih2 _ _ _ _ _)
   | (with_reducible exact ih3 _ _ _ _ _)
   | (with_reducible exact ih4 _ _ _ _ _ _ _ _ _ _ _)
   | (with_reducible exact ih5 _ _ _ _ _ _ _ _ _ _)
   | (with_reducible exact refill_Attain.mono _ _ _ _)
   | (with_reducible exact refill_Between.mono _ _ _ _)
   | (with_reducible exact refill_Time.mono _ _ _)
   | (with_reducible exact waterhourref04_Valid.mono _ _)
   | (with_reducible exact LeO.refl _)
   | (with_reducible exact LeO.none _)
   | (with_reducible refine LeO.ite ?_ ?_)
   | (with_reducible refine LeO.bind ?_ (fun _ => ?_))
   | exact ih0 _ _ _ _ _ _ _
   | exact ih1 _ _ _ _ _ _ _ _ _ _ _ _
   | exact ih2 _ _ _ _ _
   | exact ih3 _ _ _ _ _
   | exact ih4 _ _ _ _ _ _ _ _ _ _ _
   | exact ih5 _ _ _ _ _ _ _ _ _ _
   | exact refill_Attain.mono _ _ _ _
   | exact refill_Between.mono _ _ _ _
   | exact refill_Time.mono _ _ _
   | exact waterhourref04_Valid.mono _ _
   | exact LeO.none _
   | refine LeO.ite ?_ ?_
   | refine LeO.bind ?_ (fun _ => ?_)
  ·intro y0 y1 y2 y3 y4
   unfold waterhourlaw04_RefillAttained.j2
   repeat' first
   | (with_reducible exact ih0 _ _ _ _ _ _ _)
   | (with_reducible exact ih1 _ _ _ _ _ _ _ _ _ _ _ _)
   | (with_reducible exact ih2 _ _ _ _ _)
   | (with_reducible exact ih3 _ _ _ _ _)
   | (with_reducible exact ih4 _ _ _ _ _ _ _ _ _ _ _)
   | (with_reducible exact ih5 _ _ _ _ _ _ _ _ _ _)
   | (with_reducible exact refill_Attain.mono _ _ _ _)
   | (with_reducible exact refill_Between.mono _ _ _ _)
   | (with_reducible exact refill_Time.mono _ _ _)
   | (with_reducible exact waterhourref04_Valid.mono _ _)
   | (with_reducible exact LeO.refl _)
   | (with_reducible exact LeO.none _)
   | (with_reducible refine LeO.ite ?_ ?_)
   | (with_reducible refine LeO.bind ?_ (fun _ => ?_))
   | exact ih0 _ _ _ _ _ _ _
   | exact ih1 _ _ _ _ _ _ _ _ _ _ _ _
   | exact ih2 _ _ _ _ _
   | exact ih3 _ _ _ _ _
   | exact ih4 _ _ _ _ _ _ _ _ _ _ _
   | exact ih5 _ _ _ _ _ _ _ _ _ _
   | exact refill_Attain.mono _ _ _ _
   | exact refill_Between.mono _ _ _ _
   | exact refill_Time.mono _ _ _
   | exact waterhourref04_Valid.mono _ _
   | exact LeO.none _
   | refine LeO.ite ?_ ?_
   | refine LeO.bind ?_ (fun _ => ?_)
  ·intro y0 y1 y2 y3 y4
   unfold waterhourlaw04_RefillAttained.j3
   repeat' first
   | (with_reducible exact ih0 _ _ _ _ _ _ _)
   | (with_reducible exact ih1 _ _ _ _ _ _ _ _ _ _ _ _)
   | (with_reducible exact ih2 _ _ _ _ _)
   | (with_reducible exact ih3 _ _ _ _ _)
   | (with_reducible exact ih4 _ _ _ _ _ _ _ _ _ _ _)
   | (with_reducible exact ih5 _ _ _ _ _ _ _ _ _ _)
   | (with_reducible exact refill_Attain.mono _ _ _ _)
   | (with_reducible exact refill_Between.mono _ _ _ _)
   | (with_reducible exact refill_Time.mono _ _ _)
   | (with_reducible exact waterhourref04_Valid.mono _ _)
   | (with_reducible exact LeO.refl _)
   | (with_reducible exact LeO.none _)
   | (with_reducible refine LeO.ite ?_ ?_)
   | (with_reducible refine LeO.bind ?_ (fun _ => ?_))
   | exact ih0 _ _ _ _ _ _ _
   | exact ih1 _ _ _ _ _ _ _ _ _ _ _ _
   | exact ih2 _ _ _ _ _
   | exact ih3 _ _ _ _ _
   | exact ih4 _ _ _ _ _ _ _ _ _ _ _
   | exact ih5 _ _ _ _ _ _ _ _ _ _
   | exact refill_Attain.mono _ _ _ _
   | exact refill_Between.mono _ _ _ _
   | exact refill_Time.mono _ _ _
   | exact waterhourref04_Valid.mono _ _
   | exact LeO.none _
   | refine LeO.ite ?_ ?_
   | refine LeO.bind ?_ (fun _ => ?_)
  ·intro y0 y1 y2 y3 y4 y5 y6 y7 y8 y9 y10
   unfold waterhourlaw04_RefillAttained.j4
   repeat' first
   | (with_reducible exact ih0 _ _ _ _ _ _ _)
   | (with_reducible exact ih1 _ _ _ _ _ _ _ _ _ _ _ _)
   | (with_reducible exact ih2 _ _ _ _ _)
   | (with_reducible exact ih3 _ _ _ _ _)
   | (with_reducible exact ih4 _ _ _ _ _ _ _ _ _ _ _)
   | (with_reducible exact ih5 _ _ _ _ _ _ _ _ _ _)
   | (with_reducible exact refill_Attain.mono _ _ _ _)
   | (with_reducible exact refill_Between.mono _ _ _ _)
   | (with_reducible exact refill_Time.mono _ _ _)
   | (with_reducible exact waterhourref04_Valid.mono _ _)
   | (with_reducible exact LeO.refl _)
   | (with_reducible exact LeO.none _)
   | (with_reducible refine LeO.ite ?_ ?_)
   | (with_reducible refine LeO.bind ?_ (fun _ => ?_))
   | exact ih0 _ _ _ _ _ _ _
   | exact ih1 _ _ _ _ _ _ _ _ _ _ _ _
   | exact ih2 _ _ _ _ _
   | exact ih3 _ _ _ _ _
   | exact ih4 _ _ _ _ _ _ _ _ _ _ _
   | exact ih5 _ _ _ _ _ _ _ _ _ _
   | exact refill_Attain.mono _ _ _ _
   | exact refill_Between.mono _ _ _ _
   | exact refill_Time.mono _ _ _
   | exact waterhourref04_Valid.mono _ _
   | exact LeO.none _
   | refine LeO.ite ?_ ?_
   | refine LeO.bind ?_ (fun _ => ?_)
  ·intro y0 y1 y2 y3 y4 y5 y6 y7 y8 y9
   unfold waterhourlaw04_RefillAttained.l0
   repeat' first
   | (with_reducible exact ih0 _ _ _ _ _ _ _)
   | (with_reducible exact ih1 _ _ _ _ _ _ _ _ _ _ _ _)
   | (with_reducible exact ih2 _ _ _ _ _)
   | (with_reducible exact ih3 _ _ _ _ _)
   | (with_reducible exact ih4 _ _ _ _ _ _ _ _ _ _ _)
   | (with_reducible exact ih5 _ _ _ _ _ _ _ _ _ _)
   | (with_reducible exact refill_Attain.mono _ _ _ _)
   | (with_reducible exact refill_Between.mono _ _ _ _)
   | (with_reducible exact refill_Time.mono _ _ _)
   | (with_reducible exact waterhourref04_Valid.mono _ _)
   | (with_reducible exact LeO.refl _)
   | (with_reducible exact LeO.none _)
   | (with_reducible refine LeO.ite ?_ ?_)
   | (with_reducible refine LeO.bind ?_ (fun _ => ?_))
   | exact ih0 _ _ _ _ _ _ _
   | exact ih1 _ _ _ _ _ _ _ _ _ _ _ _
   | exact ih2 _ _ _ _ _
   | exact ih3 _ _ _ _ _
   | exact ih4 _ _ _ _ _ _ _ _ _ _ _
   | exact ih5 _ _ _ _ _ _ _ _ _ _
   | exact refill_Attain.mono _ _ _ _
   | exact refill_Between.mono _ _ _ _
   | exact refill_Time.mono _ _ _
   | exact waterhourref04_Valid.mono _ _
   | exact LeO.none _
   | refine LeO.ite ?_ ?_
   | refine LeO.bind ?_ (fun _ => ?_)
theorem waterhourlaw04_RefillAttained.mono : ∀ a0 a1 a2 a3 a4 a5 k, LeO (waterhourlaw04_RefillAttained.f k a0 a1 a2 a3 a4 a5) (waterhourlaw04_RefillAttained.f (k + 1) a0 a1 a2 a3 a4 a5) := by
 intro a0 a1 a2 a3 a4 a5 k
 obtain ⟨ih0, ih1, ih2, ih3, ih4, ih5⟩ := waterhourlaw04_RefillAttained.mono_l k
 unfold waterhourlaw04_RefillAttained.f
 repeat' first
   | (with_reducible exact ih0 _ _ _ _ _ _ _)
   | (with_reducible exact ih1 _ _ _ _ _ _ _ _ _ _ _ _)
   | (with_reducible exact ih2 _ _ _ _ _)
   | (with_reducible exact ih3 _ _ _ _ _)
   | (with_reducible exact ih4 _ _ _ _ _ _ _ _ _ _ _)
   | (with_reducible exact ih5 _ _ _ _ _ _ _ _ _ _)
   | (with_reducible exact refill_Attain.mono _ _ _ _)
   | (with_reducible exact refill_Between.mono _ _ _ _)
   | (with_reducible exact refill_Time.mono _ _ _)
   | (with_reducible exact waterhourref04_Valid.mono _ _)
   | (with_reducible exact LeO.refl _)
   | (with_reducible exact LeO.none _)
   | (with_reducible refine LeO.ite ?_ ?_)
   | (with_reducible refine LeO.bind ?_ (fun _ => ?_))
   | exact ih0 _ _ _ _ _ _ _
   | exact ih1 _ _ _ _ _ _ _ _ _ _ _ _
   | exact ih2 _ _ _ _ _
   | exact ih3 _ _ _ _ _
   | exact ih4 _ _ _ _ _ _ _ _ _ _ _
   | exact ih5 _ _ _ _ _ _ _ _ _ _
   | exact refill_Attain.mono _ _ _ _
   | exact refill_Between.mono _ _ _ _
   | exact refill_Time.mono _ _ _
   | exact waterhourref04_Valid.mono _ _
   | exact LeO.none _
   | refine LeO.ite ?_ ?_
   | refine LeO.bind ?_ (fun _ => ?_)
def waterhourlaw04_RefillAttained.T28 : Bool × List (List Nat × List Nat) := (true, [([], []), ([0], [0]), ([1], [1]), ([2], [2]), ([3, 2], [2, 3]), ([2, 4], [2, 4]), ([5, 2], [5]), ([6], [6]), ([6], [6]), ([7, 8, 6, 6], [6, 7, 8]), ([9, 6], [6, 9]), ([6, 10], [6, 10]), ([11, 9], [11]), ([12], [12]), ([12], [12]), ([13, 14, 12], [12, 13, 14]), ([15, 12], [12, 15]), ([12], [12]), ([12], [12]), ([17, 18, 12], [12, 17, 18]), ([19, 12], [12, 19]), ([16, 20, 12], [12, 16, 20]), ([12], [12]), ([21, 22, 12], [12, 21, 22]), ([12, 23], [12, 23])])
def waterhourlaw04_RefillAttained.B28 : List Nat := [0, 1, 3, 7, 15, 31, 63, 127, 127, 511, 1023, 2047, 4095, 8191, 8191, 32767, 65535, 8191, 8191, 401407, 925695, 2097151, 8191, 8388607, 16777215]
theorem waterhourlaw04_RefillAttained.tab28 : rtab .any (opsOf Tryd.f9 28) = waterhourlaw04_RefillAttained.T28 := by kernel_rfl
theorem waterhourlaw04_RefillAttained.bits28 : waitsOk waterhourlaw04_RefillAttained.T28.2 waterhourlaw04_RefillAttained.B28 = true := by kernel_rfl
set_option maxHeartbeats 8000000 in
set_option maxRecDepth 100000 in
theorem waterhourlaw04_RefillAttained.calls (k : Nat) (A0 : Option Addr) (c0 : Nat) (l0 : List (S51)) (a1 : Int) (a2 : Int) (a3 : Int) (a4 : Int) (a5 : Int) (r : Bool) (w : World) (hr0 : Kd.C k51 w A0 l0.length l0) (hc0 : l0.length ≤ c0) (ht : TabB w) (hrt : Aside0 (r = true)) (h : waterhourlaw04_RefillAttained.f k l0 a1 a2 a3 a4 a5 = some r) :
  Calls Tryd.prog 9 #[.slice A0 l0.length c0, .int .i64 a1, .int .i64 a2, .int .i64 a3, .int .i64 a4, .int .i64 a5] w fun e w' => e = .returned (.bool r) ∧ Below w.heap.size w w' := by
 have hu49 := Tryd.underlying49
 have HR0 := a_ hr0
 have HC0 := a_ hc0
 clear hr0 hc0
 have HT := a_ ht
 clear ht
 have HB := a_ (Below.refl w.heap.size w)
 have H : ((law_sane.f).bind fun t554 => (if t554 = true then ((waterhourref04_Valid.f k l0).bind fun t555 => (if t555 = true then ((waterhourref04_Event.f l0 a1 0).bind fun t556 => (waterhourlaw04_RefillAttained.j0 k l0 a1 a2 a3 a4 a5 (!t556))) else (waterhourlaw04_RefillAttained.j0 k l0 a1 a2 a3 a4 a5 true))) else (some false))) = some r := h
 clear h
 replace H := Option.bind_eq_some_iff.mp H
 obtain ⟨t554, A70, H⟩ := H
 replace H : (if t554 = true then ((waterhourref04_Valid.f k l0).bind fun t555 => (if t555 = true then ((waterhourref04_Event.f l0 a1 0).bind fun t556 => (waterhourlaw04_RefillAttained.j0 k l0 a1 a2 a3 a4 a5 (!t556))) else (waterhourlaw04_RefillAttained.j0 k l0 a1 a2 a3 a4 a5 true))) else (some false)) = some r := H
 have A7 := a_ A70
 clear A70
 by_cases c8 : t554 = true
 ·subst c8
  have H1 : ((waterhourref04_Valid.f k l0).bind fun t555 => (if t555 = true then ((waterhourref04_Event.f l0 a1 0).bind fun t556 => (waterhourlaw04_RefillAttained.j0 k l0 a1 a2 a3 a4 a5 (!t556))) else (waterhourlaw04_RefillAttained.j0 k l0 a1 a2 a3 a4 a5 true))) = some r := by rw [if_pos rfl] at H; exact H
  clear H
  have H := H1
  clear H1
  have HC9 := a_ H
  clear H
  go_enter Tryd.func9, Tryd.ntmps9
  go_upto_region 3 with (first | ((with_reducible refine gate_callee (f := 18) rfl ?_); refine goesL_ (some 30) rfl rfl Tryd.func18 (by kernel_rfl) rfl #[] rfl tm_ ?_; (with_reducible refine (law_sane.calls  true _ ?side1 A7.out).mono ?_); (case side1 => exact TabB.below HT.out bl_); rintro e w10 ⟨rfl, hb⟩; refine ⟨_, rfl, ?_⟩; have n0_ := a_ (below_step bl_ hb); clear HB; have HB := n0_; clear n0_; (try clear hb); (try clear hb2); (try clear hk); (try clear hi)))
  (try simp only [Act.put, List.setIfInBounds_toArray, List.set_cons_zero, List.set_cons_succ])
  go_cut [40] (fun v40 wc => ∃ (kq : Nat) (x40_8 : Bool), v40 = .bool x40_8 ∧ Aside0 (waterhourlaw04_RefillAttained.j0 kq l0 a1 a2 a3 a4 a5 x40_8 = some r) ∧ Aside0 (kq ≤ k) ∧ Aside0 (Below w.heap.size w wc))
  case first => as_aux_lemma =>
   have H := HC9.out
   clear HC9
   replace H := Option.bind_eq_some_iff.mp H
   obtain ⟨t555, A110, H⟩ := H
   replace H : (if t555 = true then ((waterhourref04_Event.f l0 a1 0).bind fun t556 => (waterhourlaw04_RefillAttained.j0 k l0 a1 a2 a3 a4 a5 (!t556))) else (waterhourlaw04_RefillAttained.j0 k l0 a1 a2 a3 a4 a5 true)) = some r := H
   have A11 := a_ A110
   clear A110
   by_cases c12 : t555 = true
   ·subst c12
    have H1 : ((waterhourref04_Event.f l0 a1 0).bind fun t556 => (waterhourlaw04_RefillAttained.j0 k l0 a1 a2 a3 a4 a5 (!t556))) = some r := by rw [if_pos rfl] at H; exact H
    clear H
    have H := H1
    clear H1
    replace H := Option.bind_eq_some_iff.mp H
    obtain ⟨t556, A130, H⟩ := H
    replace H : (waterhourlaw04_RefillAttained.j0 k l0 a1 a2 a3 a4 a5 (!t556)) = some r := H
    have A13 := a_ A130
    clear A130
    have H' := a_ H
    clear H
    go_wp2_with (first | ((with_reducible refine gate_callee (f := 31) rfl ?_); refine goesL_ (some 33) rfl rfl Tryd.func31 (by kernel_rfl) rfl #[.slice A0 l0.length c0] rfl tm_ ?_; (with_reducible refine (waterhourref04_Valid.calls k _ _ l0 true _ ?side1 ?side2 A11.out).mono ?_); (case side1 => exact cl_ (Kd.C_below HR0.out HB.out)); (case side2 => exact HC0.out); rintro e w14 ⟨rfl, hb⟩; refine ⟨_, rfl, ?_⟩; have n0_ := a_ (below_step bl_ hb); clear HB; have HB := n0_; clear n0_; (try clear hb); (try clear hb2); (try clear hk); (try clear hi)) | (go_at_call 36; (with_reducible refine (waterhourref04_Event.calls _ _ l0 a1 0 t556 _ ?side1 ?side2 A13.out).mono ?_); (case side1 => exact cl_ (Kd.C_below HR0.out HB.out)); (case side2 => exact HC0.out); rintro e w' ⟨rfl, ⟨nd, rfl⟩⟩))
    go_meet
    case rel => exact ⟨_, (!t556), (by first | rfl | (simp; done) | (simp [*]; done)), H', ⟨by first | omega | exact Nat.le_refl _⟩, ⟨bl_⟩⟩
   ·replace c12 := Bool.eq_false_iff.mpr c12
    subst c12
    have H1 : (waterhourlaw04_RefillAttained.j0 k l0 a1 a2 a3 a4 a5 true) = some r := by rw [if_neg (show ¬ (false = true) by decide)] at H; exact H
    clear H
    have H := H1
    clear H1
    have H' := a_ H
    clear H
    go_wp2_with (first | ((with_reducible refine gate_callee (f := 31) rfl ?_); refine goesL_ (some 33) rfl rfl Tryd.func31 (by kernel_rfl) rfl #[.slice A0 l0.length c0] rfl tm_ ?_; (with_reducible refine (waterhourref04_Valid.calls k _ _ l0 false _ ?side1 ?side2 A11.out).mono ?_); (case side1 => exact cl_ (Kd.C_below HR0.out HB.out)); (case side2 => exact HC0.out); rintro e w15 ⟨rfl, hb⟩; refine ⟨_, rfl, ?_⟩; have n0_ := a_ (below_step bl_ hb); clear HB; have HB := n0_; clear n0_; (try clear hb); (try clear hb2); (try clear hk); (try clear hi)))
    go_meet
    case rel => exact ⟨_, (true), (by first | rfl | (simp; done) | (simp [*]; done)), H', ⟨by first | omega | exact Nat.le_refl _⟩, ⟨bl_⟩⟩
  case rest =>
   clear HC9
   try clear c1
   try clear p2
   try clear c3
   try clear c8
   try clear c9
   try clear c12
   obtain ⟨kq, x40_8, rfl, HA, HJ8, HB⟩ := hcut
   cases kq with
   | zero => exact absurd HA.out (by simp [waterhourlaw04_RefillAttained.j0])
   | succ kj8 =>
    have H := HA.out
    clear HA
    simp only [waterhourlaw04_RefillAttained.j0] at H
    by_cases c16 : x40_8 = true
    ·subst c16
     have H1 : (some true) = some r := by rw [if_pos rfl] at H; exact H
     clear H
     have H := H1
     clear H1
     obtain rfl := Option.some.inj H
     go_wp2
     go_ret
     exact ⟨by first | rfl | (simp [errW_none, errW_some] <;> rfl) | (simp [*, errW_none, errW_some] <;> rfl), bl_⟩
    ·replace c16 := Bool.eq_false_iff.mpr c16
     subst c16
     have H1 : ((refill_Time.f kj8 l0 a1).bind fun bt557 => ((refill_Attain.f kj8 l0 a1 a2).bind fun bt561 => (if bt561.2.2 = 0 then (if bt557.2.2 = 0 then (waterhourlaw04_RefillAttained.j1 kj8 l0 a1 a2 a3 a4 a5 bt557.2.2 bt561.1 bt561.2.1 false bt557.1 bt557.2.1) else (waterhourlaw04_RefillAttained.j1 kj8 l0 a1 a2 a3 a4 a5 bt557.2.2 bt561.1 bt561.2.1 (bt557.2.2 != 31) bt557.1 bt557.2.1)) else (waterhourlaw04_RefillAttained.j1 kj8 l0 a1 a2 a3 a4 a5 bt557.2.2 bt561.1 bt561.2.1 true bt557.1 bt557.2.1)))) = some r := by rw [if_neg (show ¬ (false = true) by decide)] at H; exact H
     clear H
     have H := H1
     clear H1
     replace H := Option.bind_eq_some_iff.mp H
     obtain ⟨⟨t557, t558, t559⟩, A170, H⟩ := H
     replace H : ((refill_Attain.f kj8 l0 a1 a2).bind fun bt561 => (if bt561.2.2 = 0 then (if t559 = 0 then (waterhourlaw04_RefillAttained.j1 kj8 l0 a1 a2 a3 a4 a5 t559 bt561.1 bt561.2.1 false t557 t558) else (waterhourlaw04_RefillAttained.j1 kj8 l0 a1 a2 a3 a4 a5 t559 bt561.1 bt561.2.1 (t559 != 31) t557 t558)) else (waterhourlaw04_RefillAttained.j1 kj8 l0 a1 a2 a3 a4 a5 t559 bt561.1 bt561.2.1 true t557 t558))) = some r := H
     have A17 := a_ A170
     clear A170
     replace H := Option.bind_eq_some_iff.mp H
     obtain ⟨⟨t561, t562, t563⟩, A180, H⟩ := H
     replace H : (if t563 = 0 then (if t559 = 0 then (waterhourlaw04_RefillAttained.j1 kj8 l0 a1 a2 a3 a4 a5 t559 t561 t562 false t557 t558) else (waterhourlaw04_RefillAttained.j1 kj8 l0 a1 a2 a3 a4 a5 t559 t561 t562 (t559 != 31) t557 t558)) else (waterhourlaw04_RefillAttained.j1 kj8 l0 a1 a2 a3 a4 a5 t559 t561 t562 true t557 t558)) = some r := H
     have A18 := a_ A180
     clear A180
     have HC19 := a_ H
     clear H
     go_upto_region 7 with (first | ((with_reducible refine gate_callee (f := 43) rfl ?_); refine goesL_ (some 44) rfl rfl Tryd.func43 (by kernel_rfl) rfl #[.slice A0 l0.length c0, .int .i64 a1] rfl tm_ ?_; (with_reducible refine (refill_Time.calls kj8 _ _ l0 a1 t557 t558 t559 _ ?side1 ?side2 A17.out).mono ?_); (case side1 => exact cl_ (Kd.C_below HR0.out HB.out)); (case side2 => exact HC0.out); rintro e w20 ⟨rfl, hb⟩; refine ⟨_, rfl, ?_⟩; have n0_ := a_ (below_step bl_ hb); clear HB; have HB := n0_; clear n0_; (try clear hb); (try clear hb2); (try clear hk); (try clear hi)) | ((with_reducible refine gate_dst (N := 13) rfl ?_); (try (refine gate_guard (by rfl) ?_; dsimp only)); refine box_event ?hg (N := 13) ?hd (cs := #[.int .i64 0, .int .i64 0]) (t := 49) ?hr ?_; (case hd => rfl); (case hg => rfl); (case hr => first | (go_simp; done) | (go_simp; rfl)); intro gb560 hg w21 hbox hb; have n0_ := a_ (below_step bl_ hb); have n1_ := a_ (hbox); have n2_ := a_ ((bz_ (w := w) hg)); have n3_ := a_ ((bz_ (w := w) hg)); clear HB; have HB := n0_; have BK560 := n1_; have GW560 := n2_; have GE560 := n3_; clear n0_ n1_ n2_ n3_; clear hb hbox hg; have hcz22_0 : w21.cell? ⟨gb560, 0, none⟩ = some (.int .i64 0) := (blk_cell BK560.out 0).trans rfl; have hcz22_1 : w21.cell? ⟨gb560, 1, none⟩ = some (.int .i64 0) := (blk_cell BK560.out 1).trans rfl; have hfz22_0 := blk_frozen BK560.out 0; have hfz22_1 := blk_frozen BK560.out 1) | ((with_reducible refine gate_callee (f := 20) rfl ?_); refine goesL_ (some 51) rfl rfl Tryd.func20 (by kernel_rfl) rfl #[.slice A0 l0.length c0, .int .i64 a1, .int .i64 a2] rfl tm_ ?_; (with_reducible refine (refill_Attain.calls kj8 _ _ l0 a1 a2 t561 t562 t563 _ ?side1 ?side2 A18.out).mono ?_); (case side1 => exact Kd.C_below HR0.out bl_); (case side2 => exact HC0.out); rintro e w23 ⟨v564, rfl, ho0, hb⟩; refine ⟨_, rfl, ?_⟩; have n0_ := a_ (Kd.R_lower ho0 (below_size bl_)); have n1_ := a_ (blk_below (g := gb560) (o := .cells #[.int .i64 t557, .int .i64 t558] 49 (0, 0)) (by (with_reducible repeat (first | refine blk_drewN ?_ _ | refine blk_drew ?_ | refine blk_alloc ?_ _)); refine blk_put (cs := #[.int .i64 t557, .int .i64 0]) ?_ 1 _ rfl; (with_reducible repeat (first | refine blk_drewN ?_ _ | refine blk_drew ?_ | refine blk_alloc ?_ _)); refine blk_put (cs := #[.int .i64 0, .int .i64 0]) ?_ 0 _ rfl; (with_reducible repeat (first | refine blk_drewN ?_ _ | refine blk_drew ?_ | refine blk_alloc ?_ _)); exact BK560.out) hb); have n2_ := a_ (below_step bl_ hb); clear BK560; clear HB; have HO565 := n0_; have BK560 := n1_; have HB := n2_; clear n0_ n1_ n2_; (try clear hb); (try clear hb2); (try clear hk); (try clear hi); (try clear ho0)))
     (try simp only [Act.put, List.setIfInBounds_toArray, List.set_cons_zero, List.set_cons_succ])
     go_cut [64] (fun v64 wc => ∃ (kq : Nat) (x64_18 : Bool), v64 = .bool x64_18 ∧ Aside0 (waterhourlaw04_RefillAttained.j1 kq l0 a1 a2 a3 a4 a5 t559 t561 t562 x64_18 t557 t558 = some r) ∧ Aside0 (kq ≤ kj8) ∧ Aside0 (Kd.R (Kd.int .i64) 3 wc w.heap.size (fun _ => True) v564 t561) ∧ Aside0 (wc.heap[gb560]? = some (.cells #[.int .i64 t557, .int .i64 t558] 49 (0, 0))) ∧ Aside0 (Below w.heap.size w wc))
     case first => as_aux_lemma =>
      have H := HC19.out
      clear HC19
      by_cases c24 : t563 = 0
      ·rw [if_pos c24] at H
       have c24b0 : (t563 == 0) = true := beq_iff_eq.mpr c24
       have c24b1 : (t563 != 0) = false := bne_eq_false_iff_eq.mpr c24
       clear c24
       (first | rw [c24b0] | (simp only [i64_w, i32_w]; rw [c24b0]) | skip)
       by_cases c25 : t559 = 0
       ·rw [if_pos c25] at H
        have c25b0 : (t559 == 0) = true := beq_iff_eq.mpr c25
        have c25b1 : (t559 != 0) = false := bne_eq_false_iff_eq.mpr c25
        clear c25
        have H' := a_ H
        clear H
        go_wp2
        go_meet
        case rel => exact ⟨_, (false), (by first | rfl | (simp; done) | (simp [*]; done)), H', ⟨by have := HJ8.out; first | omega | exact Nat.le_refl _⟩, ⟨rl_ HO565.out⟩, ⟨bk_ BK560.out⟩, ⟨bl_⟩⟩
       ·rw [if_neg c25] at H
        have c25b0 : (t559 == 0) = false := beq_eq_false_iff_ne.mpr c25
        have c25b1 : (t559 != 0) = true := bne_iff_ne.mpr c25
        have H' := a_ H
        clear H
        go_wp2
        go_meet
        case rel => exact ⟨_, ((t559 != 31)), (by first | rfl | (simp; done) | (simp [*]; done)), H', ⟨by have := HJ8.out; first | omega | exact Nat.le_refl _⟩, ⟨rl_ HO565.out⟩, ⟨bk_ BK560.out⟩, ⟨bl_⟩⟩
      ·rw [if_neg c24] at H
       have c24b0 : (t563 == 0) = false := beq_eq_false_iff_ne.mpr c24
       have c24b1 : (t563 != 0) = true := bne_iff_ne.mpr c24
       (first | rw [c24b0] | (simp only [i64_w, i32_w]; rw [c24b0]) | skip)
       have H' := a_ H
       clear H
       go_wp2
       go_meet
       case rel => exact ⟨_, (true), (by first | rfl | (simp; done) | (simp [*]; done)), H', ⟨by have := HJ8.out; first | omega | exact Nat.le_refl _⟩, ⟨rl_ HO565.out⟩, ⟨bk_ BK560.out⟩, ⟨bl_⟩⟩
     case rest =>
      clear HC19
      try clear c1
      try clear c2
      try clear p2
      try clear c3
      try clear c4
      try clear c8
      try clear c9
      try clear c12
      try clear c16
      try clear c18
      try clear c20
      try clear c24
      try clear c24b0
      try clear c24b1
      try clear c25
      try clear c25b0
      try clear c25b1
      try clear hcz22_0
      try clear hcz22_1
      try clear hfz22_0
      try clear hfz22_1
      try clear p2
      obtain ⟨kq, x64_18, rfl, HA, HJ18, HO_15, BK560, HB⟩ := hcut
      cases kq with
      | zero => exact absurd HA.out (by simp [waterhourlaw04_RefillAttained.j1])
      | succ kj18 =>
       have H := HA.out
       clear HA
       simp only [waterhourlaw04_RefillAttained.j1] at H
       by_cases c26 : x64_18 = true
       ·subst c26
        have H1 : (some false) = some r := by rw [if_pos rfl] at H; exact H
        clear H
        have H := H1
        clear H1
        exact absurd (H.trans (congrArg some hrt.out)) (by simp)
       ·replace c26 := Bool.eq_false_iff.mpr c26
        subst c26
        have H1 : (if t559 = 31 then (if t562 = true then (some false) else (some ((t561.length : Int) == 0))) else (if a2 ≥ t557 then (if (t562 != (decide (a2 ≤ t558))) = true then (waterhourlaw04_RefillAttained.j2 kj18 l0 a3 a4 a5 true) else (if t562 = true then ((refill_CheckTimes.f l0 t561).bind fun t566 => (if t566 = 0 then (if 0 ≤ a1 then (if a1 < (t561.length : Int) then (waterhourlaw04_RefillAttained.j2 kj18 l0 a3 a4 a5 ((rd t561 a1) != a2)) else (none)) else (none)) else (waterhourlaw04_RefillAttained.j2 kj18 l0 a3 a4 a5 true))) else (waterhourlaw04_RefillAttained.j2 kj18 l0 a3 a4 a5 false))) else (if (t562 != false) = true then (waterhourlaw04_RefillAttained.j2 kj18 l0 a3 a4 a5 true) else (if t562 = true then ((refill_CheckTimes.f l0 t561).bind fun t568 => (if t568 = 0 then (if 0 ≤ a1 then (if a1 < (t561.length : Int) then (waterhourlaw04_RefillAttained.j2 kj18 l0 a3 a4 a5 ((rd t561 a1) != a2)) else (none)) else (none)) else (waterhourlaw04_RefillAttained.j2 kj18 l0 a3 a4 a5 true))) else (waterhourlaw04_RefillAttained.j2 kj18 l0 a3 a4 a5 false))))) = some r := by rw [if_neg (show ¬ (false = true) by decide)] at H; exact H
        clear H
        have H := H1
        clear H1
        by_cases c27 : t559 = 31
        ·rw [if_pos c27] at H
         have c27b0 : (t559 == 31) = true := beq_iff_eq.mpr c27
         have c27b1 : (t559 != 31) = false := bne_eq_false_iff_eq.mpr c27
         clear c27
         by_cases c28 : t562 = true
         ·subst c28
          have H1 : (some false) = some r := by rw [if_pos rfl] at H; exact H
          clear H
          have H := H1
          clear H1
          exact absurd (H.trans (congrArg some hrt.out)) (by simp)
         ·replace c28 := Bool.eq_false_iff.mpr c28
          subst c28
          have H1 : (some ((t561.length : Int) == 0)) = some r := by rw [if_neg (show ¬ (false = true) by decide)] at H; exact H
          clear H
          have H := H1
          clear H1
          obtain rfl := Option.some.inj H
          obtain ⟨Ao29, co29, eo29⟩ := Kd.R_slice HO_15.out
          subst eo29
          go_wp2
          go_ret
          exact ⟨by first | rfl | (simp [errW_none, errW_some] <;> rfl) | (simp [*, errW_none, errW_some] <;> rfl), bl_⟩
        ·rw [if_neg c27] at H
         have c27b0 : (t559 == 31) = false := beq_eq_false_iff_ne.mpr c27
         have c27b1 : (t559 != 31) = true := bne_iff_ne.mpr c27
         have HC30 := a_ H
         clear H
         go_upto_region 11 with (fail)
         go_cut [102] (fun v102 wc => ∃ (kq : Nat) (x102_29 : Bool), v102 = .bool x102_29 ∧ Aside0 (waterhourlaw04_RefillAttained.j2 kq l0 a3 a4 a5 x102_29 = some r) ∧ Aside0 (kq ≤ kj18) ∧ Aside0 (wc.heap[gb560]? = some (.cells #[.int .i64 t557, .int .i64 t558] 49 (0, 0))) ∧ Aside0 (Below w.heap.size w wc))
         case first => as_aux_lemma =>
          have H := HC30.out
          clear HC30
          by_cases c31 : a2 ≥ t557
          ·rw [if_pos c31] at H
           have c31b0 : decide (t557 ≤ a2) = true := decide_eq_true c31
           clear c31
           (first | rw [c31b0] | (simp only [i64_w, i32_w]; rw [c31b0]) | skip)
           by_cases c32 : (t562 != (decide (a2 ≤ t558))) = true
           ·rw [if_pos c32] at H
            have c32b0 : (t562 != (decide (a2 ≤ t558))) = true := c32
            (try (have c32b1 : decide (t562 = (decide (a2 ≤ t558))) = false := by simpa using c32))
            (try (have c32b2 : (t562 == (decide (a2 ≤ t558))) = false := by simpa using c32))
            (try (have c32b3 : ¬ (t562 = (decide (a2 ≤ t558))) := by simpa using c32))
            clear c32
            have H' := a_ H
            clear H
            have hcz33_0 : wc.cell? ⟨gb560, 0, none⟩ = some (.int .i64 t557) := (blk_cell BK560.out 0).trans rfl
            have hcz33_1 : wc.cell? ⟨gb560, 1, none⟩ = some (.int .i64 t558) := (blk_cell BK560.out 1).trans rfl
            have hfz33_0 := blk_frozen BK560.out 0
            have hfz33_1 := blk_frozen BK560.out 1
            go_wp2
            go_meet
            case rel => exact ⟨_, (true), (by first | rfl | (simp; done) | (simp [*]; done)), H', ⟨by have := HJ8.out; have := HJ18.out; first | omega | exact Nat.le_refl _⟩, ⟨bk_ BK560.out⟩, ⟨bl_⟩⟩
           ·rw [if_neg c32] at H
            have c32b0 : (t562 != (decide (a2 ≤ t558))) = false := by simpa using c32
            (try (have c32b1 : decide (t562 = (decide (a2 ≤ t558))) = true := by simpa using c32))
            (try (have c32b2 : (t562 == (decide (a2 ≤ t558))) = true := by simpa using c32))
            clear c32
            by_cases c34 : t562 = true
            ·subst c34
             have H1 : ((refill_CheckTimes.f l0 t561).bind fun t566 => (if t566 = 0 then (if 0 ≤ a1 then (if a1 < (t561.length : Int) then (waterhourlaw04_RefillAttained.j2 kj18 l0 a3 a4 a5 ((rd t561 a1) != a2)) else (none)) else (none)) else (waterhourlaw04_RefillAttained.j2 kj18 l0 a3 a4 a5 true))) = some r := by rw [if_pos rfl] at H; exact H
             clear H
             have H := H1
             clear H1
             replace H := Option.bind_eq_some_iff.mp H
             obtain ⟨t566, A350, H⟩ := H
             replace H : (if t566 = 0 then (if 0 ≤ a1 then (if a1 < (t561.length : Int) then (waterhourlaw04_RefillAttained.j2 kj18 l0 a3 a4 a5 ((rd t561 a1) != a2)) else (none)) else (none)) else (waterhourlaw04_RefillAttained.j2 kj18 l0 a3 a4 a5 true)) = some r := H
             have A35 := a_ A350
             clear A350
             by_cases c36 : t566 = 0
             ·rw [if_pos c36] at H
              have c36b0 : (t566 == 0) = true := beq_iff_eq.mpr c36
              have c36b1 : (t566 != 0) = false := bne_eq_false_iff_eq.mpr c36
              clear c36
              by_cases c37 : 0 ≤ a1
              ·rw [if_pos c37] at H
               have c37b0 : decide (0 ≤ a1) = true := decide_eq_true c37
               clear c37
               by_cases c38 : a1 < (t561.length : Int)
               ·rw [if_pos c38] at H
                have c38b0 : decide (a1 < (t561.length : Int)) = true := decide_eq_true c38
                clear c38
                have H' := a_ H
                clear H
                have hcz39_0 : wc.cell? ⟨gb560, 0, none⟩ = some (.int .i64 t557) := (blk_cell BK560.out 0).trans rfl
                have hcz39_1 : wc.cell? ⟨gb560, 1, none⟩ = some (.int .i64 t558) := (blk_cell BK560.out 1).trans rfl
                have hfz39_0 := blk_frozen BK560.out 0
                have hfz39_1 := blk_frozen BK560.out 1
                obtain ⟨Ao40, co40, eo40⟩ := Kd.R_slice HO_15.out
                subst eo40
                go_wp2_with (first | (go_at_call 33; (with_reducible refine (refill_CheckTimes.calls _ _ l0 _ _ t561 t566 _ ?side1 ?side2 ?side3 ?side4 A35.out).mono ?_); (case side1 => exact cl_ (Kd.C_below HR0.out HB.out)); (case side2 => exact HC0.out); (case side3 => exact cl_ ((Kd.R_reads' HO_15.out).2.2)); (case side4 => exact (Kd.R_reads' HO_15.out).2.1); rintro e w41 ⟨rfl, hb⟩; have n0_ := a_ (Kd.R_below (rl_ HO_15.out) hb); have n1_ := a_ (bb_ BK560.out hb); have n2_ := a_ (below_step bl_ hb); clear HO_15; clear BK560; clear HB; have HO_15 := n0_; have BK560 := n1_; have HB := n2_; clear n0_ n1_ n2_; (try clear hb); (try clear hb2); (try clear hk); (try clear hi); have p567 : 0 ≤ (a1 : Int) := of_decide_eq_true (by first | (with_reducible assumption) | assumption); have q567 : a1 < (t561.length : Int) := of_decide_eq_true (by first | (with_reducible assumption) | assumption); obtain ⟨ad567, e567, hx567_0⟩ := Kd.at_int (Kd.R_reads' HO_15.out).2.2 a1 p567 q567; cases e567; replace p567 := eq_true p567; replace q567 := eq_true q567))
                go_meet
                case rel => exact ⟨_, (((rd t561 a1) != a2)), (by first | rfl | (simp; done) | (simp [*]; done)), H', ⟨by have := HJ8.out; have := HJ18.out; first | omega | exact Nat.le_refl _⟩, ⟨bk_ BK560.out⟩, ⟨bl_⟩⟩
               ·rw [if_neg c38] at H
                exact absurd H (by simp)
              ·rw [if_neg c37] at H
               exact absurd H (by simp)
             ·rw [if_neg c36] at H
              have c36b0 : (t566 == 0) = false := beq_eq_false_iff_ne.mpr c36
              have c36b1 : (t566 != 0) = true := bne_iff_ne.mpr c36
              have H' := a_ H
              clear H
              have hcz42_0 : wc.cell? ⟨gb560, 0, none⟩ = some (.int .i64 t557) := (blk_cell BK560.out 0).trans rfl
              have hcz42_1 : wc.cell? ⟨gb560, 1, none⟩ = some (.int .i64 t558) := (blk_cell BK560.out 1).trans rfl
              have hfz42_0 := blk_frozen BK560.out 0
              have hfz42_1 := blk_frozen BK560.out 1
              obtain ⟨Ao43, co43, eo43⟩ := Kd.R_slice HO_15.out
              subst eo43
              go_wp2_with (first | (go_at_call 33; (with_reducible refine (refill_CheckTimes.calls _ _ l0 _ _ t561 t566 _ ?side1 ?side2 ?side3 ?side4 A35.out).mono ?_); (case side1 => exact cl_ (Kd.C_below HR0.out HB.out)); (case side2 => exact HC0.out); (case side3 => exact cl_ ((Kd.R_reads' HO_15.out).2.2)); (case side4 => exact (Kd.R_reads' HO_15.out).2.1); rintro e w44 ⟨rfl, hb⟩; have n0_ := a_ (Kd.R_below (rl_ HO_15.out) hb); have n1_ := a_ (bb_ BK560.out hb); have n2_ := a_ (below_step bl_ hb); clear HO_15; clear BK560; clear HB; have HO_15 := n0_; have BK560 := n1_; have HB := n2_; clear n0_ n1_ n2_; (try clear hb); (try clear hb2); (try clear hk); (try clear hi)))
              go_meet
              case rel => exact ⟨_, (true), (by first | rfl | (simp; done) | (simp [*]; done)), H', ⟨by have := HJ8.out; have := HJ18.out; first | omega | exact Nat.le_refl _⟩, ⟨bk_ BK560.out⟩, ⟨bl_⟩⟩
            ·replace c34 := Bool.eq_false_iff.mpr c34
             subst c34
             have H1 : (waterhourlaw04_RefillAttained.j2 kj18 l0 a3 a4 a5 false) = some r := by rw [if_neg (show ¬ (false = true) by decide)] at H; exact H
             clear H
             have H := H1
             clear H1
             have H' := a_ H
             clear H
             have hcz45_0 : wc.cell? ⟨gb560, 0, none⟩ = some (.int .i64 t557) := (blk_cell BK560.out 0).trans rfl
             have hcz45_1 : wc.cell? ⟨gb560, 1, none⟩ = some (.int .i64 t558) := (blk_cell BK560.out 1).trans rfl
             have hfz45_0 := blk_frozen BK560.out 0
             have hfz45_1 := blk_frozen BK560.out 1
             go_wp2
             go_meet
             case rel => exact ⟨_, (false), (by first | rfl | (simp; done) | (simp [*]; done)), H', ⟨by have := HJ8.out; have := HJ18.out; first | omega | exact Nat.le_refl _⟩, ⟨bk_ BK560.out⟩, ⟨bl_⟩⟩
          ·rw [if_neg c31] at H
           have c31b0 : decide (t557 ≤ a2) = false := decide_eq_false c31
           clear c31
           (first | rw [c31b0] | (simp only [i64_w, i32_w]; rw [c31b0]) | skip)
           by_cases c46 : (t562 != false) = true
           ·rw [if_pos c46] at H
            have c46b0 : (t562 != false) = true := c46
            (try (have c46b1 : decide (t562 = false) = false := by simpa using c46))
            (try (have c46b2 : (t562 == false) = false := by simpa using c46))
            (try (have c46b3 : ¬ (t562 = false) := by simpa using c46))
            clear c46
            have H' := a_ H
            clear H
            have hcz47_0 : wc.cell? ⟨gb560, 0, none⟩ = some (.int .i64 t557) := (blk_cell BK560.out 0).trans rfl
            have hcz47_1 : wc.cell? ⟨gb560, 1, none⟩ = some (.int .i64 t558) := (blk_cell BK560.out 1).trans rfl
            have hfz47_0 := blk_frozen BK560.out 0
            have hfz47_1 := blk_frozen BK560.out 1
            go_wp2
            go_meet
            case rel => exact ⟨_, (true), (by first | rfl | (simp; done) | (simp [*]; done)), H', ⟨by have := HJ8.out; have := HJ18.out; first | omega | exact Nat.le_refl _⟩, ⟨bk_ BK560.out⟩, ⟨bl_⟩⟩
           ·rw [if_neg c46] at H
            have c46b0 : (t562 != false) = false := by simpa using c46
            (try (have c46b1 : decide (t562 = false) = true := by simpa using c46))
            (try (have c46b2 : (t562 == false) = true := by simpa using c46))
            clear c46
            by_cases c48 : t562 = true
            ·subst c48
             have H1 : ((refill_CheckTimes.f l0 t561).bind fun t568 => (if t568 = 0 then (if 0 ≤ a1 then (if a1 < (t561.length : Int) then (waterhourlaw04_RefillAttained.j2 kj18 l0 a3 a4 a5 ((rd t561 a1) != a2)) else (none)) else (none)) else (waterhourlaw04_RefillAttained.j2 kj18 l0 a3 a4 a5 true))) = some r := by rw [if_pos rfl] at H; exact H
             clear H
             have H := H1
             clear H1
             replace H := Option.bind_eq_some_iff.mp H
             obtain ⟨t568, A490, H⟩ := H
             replace H : (if t568 = 0 then (if 0 ≤ a1 then (if a1 < (t561.length : Int) then (waterhourlaw04_RefillAttained.j2 kj18 l0 a3 a4 a5 ((rd t561 a1) != a2)) else (none)) else (none)) else (waterhourlaw04_RefillAttained.j2 kj18 l0 a3 a4 a5 true)) = some r := H
             have A49 := a_ A490
             clear A490
             by_cases c50 : t568 = 0
             ·rw [if_pos c50] at H
              have c50b0 : (t568 == 0) = true := beq_iff_eq.mpr c50
              have c50b1 : (t568 != 0) = false := bne_eq_false_iff_eq.mpr c50
              clear c50
              by_cases c51 : 0 ≤ a1
              ·rw [if_pos c51] at H
               have c51b0 : decide (0 ≤ a1) = true := decide_eq_true c51
               clear c51
               by_cases c52 : a1 < (t561.length : Int)
               ·rw [if_pos c52] at H
                have c52b0 : decide (a1 < (t561.length : Int)) = true := decide_eq_true c52
                clear c52
                have H' := a_ H
                clear H
                have hcz53_0 : wc.cell? ⟨gb560, 0, none⟩ = some (.int .i64 t557) := (blk_cell BK560.out 0).trans rfl
                have hcz53_1 : wc.cell? ⟨gb560, 1, none⟩ = some (.int .i64 t558) := (blk_cell BK560.out 1).trans rfl
                have hfz53_0 := blk_frozen BK560.out 0
                have hfz53_1 := blk_frozen BK560.out 1
                obtain ⟨Ao54, co54, eo54⟩ := Kd.R_slice HO_15.out
                subst eo54
                go_wp2_with (first | (go_at_call 33; (with_reducible refine (refill_CheckTimes.calls _ _ l0 _ _ t561 t568 _ ?side1 ?side2 ?side3 ?side4 A49.out).mono ?_); (case side1 => exact cl_ (Kd.C_below HR0.out HB.out)); (case side2 => exact HC0.out); (case side3 => exact cl_ ((Kd.R_reads' HO_15.out).2.2)); (case side4 => exact (Kd.R_reads' HO_15.out).2.1); rintro e w55 ⟨rfl, hb⟩; have n0_ := a_ (Kd.R_below (rl_ HO_15.out) hb); have n1_ := a_ (bb_ BK560.out hb); have n2_ := a_ (below_step bl_ hb); clear HO_15; clear BK560; clear HB; have HO_15 := n0_; have BK560 := n1_; have HB := n2_; clear n0_ n1_ n2_; (try clear hb); (try clear hb2); (try clear hk); (try clear hi); have p569 : 0 ≤ (a1 : Int) := of_decide_eq_true (by first | (with_reducible assumption) | assumption); have q569 : a1 < (t561.length : Int) := of_decide_eq_true (by first | (with_reducible assumption) | assumption); obtain ⟨ad569, e569, hx569_0⟩ := Kd.at_int (Kd.R_reads' HO_15.out).2.2 a1 p569 q569; cases e569; replace p569 := eq_true p569; replace q569 := eq_true q569))
                go_meet
                case rel => exact ⟨_, (((rd t561 a1) != a2)), (by first | rfl | (simp; done) | (simp [*]; done)), H', ⟨by have := HJ8.out; have := HJ18.out; first | omega | exact Nat.le_refl _⟩, ⟨bk_ BK560.out⟩, ⟨bl_⟩⟩
               ·rw [if_neg c52] at H
                exact absurd H (by simp)
              ·rw [if_neg c51] at H
               exact absurd H (by simp)
             ·rw [if_neg c50] at H
              have c50b0 : (t568 == 0) = false := beq_eq_false_iff_ne.mpr c50
              have c50b1 : (t568 != 0) = true := bne_iff_ne.mpr c50
              have H' := a_ H
              clear H
              have hcz56_0 : wc.cell? ⟨gb560, 0, none⟩ = some (.int .i64 t557) := (blk_cell BK560.out 0).trans rfl
              have hcz56_1 : wc.cell? ⟨gb560, 1, none⟩ = some (.int .i64 t558) := (blk_cell BK560.out 1).trans rfl
              have hfz56_0 := blk_frozen BK560.out 0
              have hfz56_1 := blk_frozen BK560.out 1
              obtain ⟨Ao57, co57, eo57⟩ := Kd.R_slice HO_15.out
              subst eo57
              go_wp2_with (first | (go_at_call 33; (with_reducible refine (refill_CheckTimes.calls _ _ l0 _ _ t561 t568 _ ?side1 ?side2 ?side3 ?side4 A49.out).mono ?_); (case side1 => exact cl_ (Kd.C_below HR0.out HB.out)); (case side2 => exact HC0.out); (case side3 => exact cl_ ((Kd.R_reads' HO_15.out).2.2)); (case side4 => exact (Kd.R_reads' HO_15.out).2.1); rintro e w58 ⟨rfl, hb⟩; have n0_ := a_ (Kd.R_below (rl_ HO_15.out) hb); have n1_ := a_ (bb_ BK560.out hb); have n2_ := a_ (below_step bl_ hb); clear HO_15; clear BK560; clear HB; have HO_15 := n0_; have BK560 := n1_; have HB := n2_; clear n0_ n1_ n2_; (try clear hb); (try clear hb2); (try clear hk); (try clear hi)))
              go_meet
              case rel => exact ⟨_, (true), (by first | rfl | (simp; done) | (simp [*]; done)), H', ⟨by have := HJ8.out; have := HJ18.out; first | omega | exact Nat.le_refl _⟩, ⟨bk_ BK560.out⟩, ⟨bl_⟩⟩
            ·replace c48 := Bool.eq_false_iff.mpr c48
             subst c48
             have H1 : (waterhourlaw04_RefillAttained.j2 kj18 l0 a3 a4 a5 false) = some r := by rw [if_neg (show ¬ (false = true) by decide)] at H; exact H
             clear H
             have H := H1
             clear H1
             have H' := a_ H
             clear H
             have hcz59_0 : wc.cell? ⟨gb560, 0, none⟩ = some (.int .i64 t557) := (blk_cell BK560.out 0).trans rfl
             have hcz59_1 : wc.cell? ⟨gb560, 1, none⟩ = some (.int .i64 t558) := (blk_cell BK560.out 1).trans rfl
             have hfz59_0 := blk_frozen BK560.out 0
             have hfz59_1 := blk_frozen BK560.out 1
             go_wp2
             go_meet
             case rel => exact ⟨_, (false), (by first | rfl | (simp; done) | (simp [*]; done)), H', ⟨by have := HJ8.out; have := HJ18.out; first | omega | exact Nat.le_refl _⟩, ⟨bk_ BK560.out⟩, ⟨bl_⟩⟩
         case rest =>
          clear HC30
          try clear c1
          try clear c2
          try clear p2
          try clear c3
          try clear c4
          try clear c5
          try clear p5
          try clear q5
          try clear hx5
          try clear c8
          try clear c9
          try clear c12
          try clear c16
          try clear c18
          try clear c20
          try clear c24
          try clear c24b0
          try clear c24b1
          try clear c25
          try clear c25b0
          try clear c25b1
          try clear c26
          try clear c27
          try clear c27b0
          try clear c27b1
          try clear c28
          try clear c31
          try clear c31b0
          try clear c32
          try clear c32b0
          try clear c32b1
          try clear c32b2
          try clear c34
          try clear c36
          try clear c36b0
          try clear c36b1
          try clear c37
          try clear c37b0
          try clear c38
          try clear c38b0
          try clear c43
          try clear c46
          try clear c46b0
          try clear c46b1
          try clear c46b2
          try clear c48
          try clear c50
          try clear c50b0
          try clear c50b1
          try clear c51
          try clear c51b0
          try clear c52
          try clear c52b0
          try clear p56
          try clear q56
          try clear hx56
          try clear hcz22_0
          try clear hcz22_1
          try clear hcz33_0
          try clear hcz33_1
          try clear hcz39_0
          try clear hcz39_1
          try clear hcz42_0
          try clear hcz42_1
          try clear hcz45_0
          try clear hcz45_1
          try clear hcz47_0
          try clear hcz47_1
          try clear hcz53_0
          try clear hcz53_1
          try clear hcz56_0
          try clear hcz56_1
          try clear hcz59_0
          try clear hcz59_1
          try clear hfz22_0
          try clear hfz22_1
          try clear hfz33_0
          try clear hfz33_1
          try clear hfz39_0
          try clear hfz39_1
          try clear hfz42_0
          try clear hfz42_1
          try clear hfz45_0
          try clear hfz45_1
          try clear hfz47_0
          try clear hfz47_1
          try clear hfz53_0
          try clear hfz53_1
          try clear hfz56_0
          try clear hfz56_1
          try clear hfz59_0
          try clear hfz59_1
          try clear hx567_0
          try clear hx569_0
          try clear p2
          try clear p567
          try clear p569
          try clear q567
          try clear q569
          obtain ⟨kq, x102_29, rfl, HA, HJ29, BK560, HB⟩ := hcut
          cases kq with
          | zero => exact absurd HA.out (by simp [waterhourlaw04_RefillAttained.j2])
          | succ kj29 =>
           have H := HA.out
           clear HA
           simp only [waterhourlaw04_RefillAttained.j2] at H
           by_cases c60 : x102_29 = true
           ·subst c60
            have H1 : (some false) = some r := by rw [if_pos rfl] at H; exact H
            clear H
            have H := H1
            clear H1
            exact absurd (H.trans (congrArg some hrt.out)) (by simp)
           ·replace c60 := Bool.eq_false_iff.mpr c60
            subst c60
            have H1 : ((waterhourref04_Event.f l0 a3 0).bind fun t570 => (if t570 = true then ((waterhourref04_Event.f l0 a4 0).bind fun t571 => (if t571 = true then (waterhourlaw04_RefillAttained.j3 kj29 l0 a3 a4 a5 (decide (a3 ≥ a4))) else (waterhourlaw04_RefillAttained.j3 kj29 l0 a3 a4 a5 true))) else (waterhourlaw04_RefillAttained.j3 kj29 l0 a3 a4 a5 true))) = some r := by rw [if_neg (show ¬ (false = true) by decide)] at H; exact H
            clear H
            have H := H1
            clear H1
            have HC61 := a_ H
            clear H
            go_upto_region 13 with (fail)
            go_cut [117] (fun v117 wc => ∃ (kq : Nat) (x117_60 : Bool), v117 = .bool x117_60 ∧ Aside0 (waterhourlaw04_RefillAttained.j3 kq l0 a3 a4 a5 x117_60 = some r) ∧ Aside0 (kq ≤ kj29) ∧ Aside0 (wc.heap[gb560]? = some (.cells #[.int .i64 t557, .int .i64 t558] 49 (0, 0))) ∧ Aside0 (Below w.heap.size w wc))
            case first => as_aux_lemma =>
             have H := HC61.out
             clear HC61
             replace H := Option.bind_eq_some_iff.mp H
             obtain ⟨t570, A620, H⟩ := H
             replace H : (if t570 = true then ((waterhourref04_Event.f l0 a4 0).bind fun t571 => (if t571 = true then (waterhourlaw04_RefillAttained.j3 kj29 l0 a3 a4 a5 (decide (a3 ≥ a4))) else (waterhourlaw04_RefillAttained.j3 kj29 l0 a3 a4 a5 true))) else (waterhourlaw04_RefillAttained.j3 kj29 l0 a3 a4 a5 true)) = some r := H
             have A62 := a_ A620
             clear A620
             by_cases c63 : t570 = true
             ·subst c63
              have H1 : ((waterhourref04_Event.f l0 a4 0).bind fun t571 => (if t571 = true then (waterhourlaw04_RefillAttained.j3 kj29 l0 a3 a4 a5 (decide (a3 ≥ a4))) else (waterhourlaw04_RefillAttained.j3 kj29 l0 a3 a4 a5 true))) = some r := by rw [if_pos rfl] at H; exact H
              clear H
              have H := H1
              clear H1
              replace H := Option.bind_eq_some_iff.mp H
              obtain ⟨t571, A640, H⟩ := H
              replace H : (if t571 = true then (waterhourlaw04_RefillAttained.j3 kj29 l0 a3 a4 a5 (decide (a3 ≥ a4))) else (waterhourlaw04_RefillAttained.j3 kj29 l0 a3 a4 a5 true)) = some r := H
              have A64 := a_ A640
              clear A640
              by_cases c65 : t571 = true
              ·subst c65
               have H1 : (waterhourlaw04_RefillAttained.j3 kj29 l0 a3 a4 a5 (decide (a3 ≥ a4))) = some r := by rw [if_pos rfl] at H; exact H
               clear H
               have H := H1
               clear H1
               have H' := a_ H
               clear H
               go_wp2_with (first | ((with_reducible refine gate_callee (f := 36) rfl ?_); refine goesL_ (some 105) rfl rfl Tryd.func36 (by kernel_rfl) rfl #[.slice A0 l0.length c0, .int .i64 a3, .int .i64 0] rfl tm_ ?_; (with_reducible refine (waterhourref04_Event.calls _ _ l0 a3 0 true _ ?side1 ?side2 A62.out).mono ?_); (case side1 => exact cl_ (Kd.C_below HR0.out HB.out)); (case side2 => exact HC0.out); rintro e w' ⟨rfl, ⟨nd, rfl⟩⟩; refine ⟨_, rfl, ?_⟩) | (go_at_call 36; (with_reducible refine (waterhourref04_Event.calls _ _ l0 a4 0 true _ ?side1 ?side2 A64.out).mono ?_); (case side1 => exact cl_ (Kd.C_below HR0.out bl_)); (case side2 => exact HC0.out); rintro e w' ⟨rfl, ⟨nd, rfl⟩⟩))
               go_meet
               case rel => exact ⟨_, (decide (a3 ≥ a4)), (by first | rfl | (simp; done) | (simp [*]; done)), H', ⟨by have := HJ8.out; have := HJ18.out; have := HJ29.out; first | omega | exact Nat.le_refl _⟩, ⟨bk_ BK560.out⟩, ⟨bl_⟩⟩
              ·replace c65 := Bool.eq_false_iff.mpr c65
               subst c65
               have H1 : (waterhourlaw04_RefillAttained.j3 kj29 l0 a3 a4 a5 true) = some r := by rw [if_neg (show ¬ (false = true) by decide)] at H; exact H
               clear H
               have H := H1
               clear H1
               have H' := a_ H
               clear H
               go_wp2_with (first | ((with_reducible refine gate_callee (f := 36) rfl ?_); refine goesL_ (some 105) rfl rfl Tryd.func36 (by kernel_rfl) rfl #[.slice A0 l0.length c0, .int .i64 a3, .int .i64 0] rfl tm_ ?_; (with_reducible refine (waterhourref04_Event.calls _ _ l0 a3 0 true _ ?side1 ?side2 A62.out).mono ?_); (case side1 => exact cl_ (Kd.C_below HR0.out HB.out)); (case side2 => exact HC0.out); rintro e w' ⟨rfl, ⟨nd, rfl⟩⟩; refine ⟨_, rfl, ?_⟩) | (go_at_call 36; (with_reducible refine (waterhourref04_Event.calls _ _ l0 a4 0 false _ ?side1 ?side2 A64.out).mono ?_); (case side1 => exact cl_ (Kd.C_below HR0.out bl_)); (case side2 => exact HC0.out); rintro e w' ⟨rfl, ⟨nd, rfl⟩⟩))
               go_meet
               case rel => exact ⟨_, (true), (by first | rfl | (simp; done) | (simp [*]; done)), H', ⟨by have := HJ8.out; have := HJ18.out; have := HJ29.out; first | omega | exact Nat.le_refl _⟩, ⟨bk_ BK560.out⟩, ⟨bl_⟩⟩
             ·replace c63 := Bool.eq_false_iff.mpr c63
              subst c63
              have H1 : (waterhourlaw04_RefillAttained.j3 kj29 l0 a3 a4 a5 true) = some r := by rw [if_neg (show ¬ (false = true) by decide)] at H; exact H
              clear H
              have H := H1
              clear H1
              have H' := a_ H
              clear H
              go_wp2_with (first | ((with_reducible refine gate_callee (f := 36) rfl ?_); refine goesL_ (some 105) rfl rfl Tryd.func36 (by kernel_rfl) rfl #[.slice A0 l0.length c0, .int .i64 a3, .int .i64 0] rfl tm_ ?_; (with_reducible refine (waterhourref04_Event.calls _ _ l0 a3 0 false _ ?side1 ?side2 A62.out).mono ?_); (case side1 => exact cl_ (Kd.C_below HR0.out HB.out)); (case side2 => exact HC0.out); rintro e w' ⟨rfl, ⟨nd, rfl⟩⟩; refine ⟨_, rfl, ?_⟩))
              go_meet
              case rel => exact ⟨_, (true), (by first | rfl | (simp; done) | (simp [*]; done)), H', ⟨by have := HJ8.out; have := HJ18.out; have := HJ29.out; first | omega | exact Nat.le_refl _⟩, ⟨bk_ BK560.out⟩, ⟨bl_⟩⟩
            case rest =>
             clear HC61
             try clear c1
             try clear c2
             try clear p2
             try clear c3
             try clear c4
             try clear c5
             try clear p5
             try clear q5
             try clear hx5
             try clear c6
             try clear c8
             try clear c9
             try clear c12
             try clear c16
             try clear c18
             try clear c20
             try clear c24
             try clear c24b0
             try clear c24b1
             try clear c25
             try clear c25b0
             try clear c25b1
             try clear c26
             try clear c27
             try clear c27b0
             try clear c27b1
             try clear c28
             try clear c31
             try clear c31b0
             try clear c32
             try clear c32b0
             try clear c32b1
             try clear c32b2
             try clear c34
             try clear c36
             try clear c36b0
             try clear c36b1
             try clear c37
             try clear c37b0
             try clear c38
             try clear c38b0
             try clear c43
             try clear c46
             try clear c46b0
             try clear c46b1
             try clear c46b2
             try clear c48
             try clear c50
             try clear c50b0
             try clear c50b1
             try clear c51
             try clear c51b0
             try clear c52
             try clear c52b0
             try clear p56
             try clear q56
             try clear hx56
             try clear c60
             try clear c63
             try clear c65
             try clear hcz22_0
             try clear hcz22_1
             try clear hcz33_0
             try clear hcz33_1
             try clear hcz39_0
             try clear hcz39_1
             try clear hcz42_0
             try clear hcz42_1
             try clear hcz45_0
             try clear hcz45_1
             try clear hcz47_0
             try clear hcz47_1
             try clear hcz53_0
             try clear hcz53_1
             try clear hcz56_0
             try clear hcz56_1
             try clear hcz59_0
             try clear hcz59_1
             try clear hfz22_0
             try clear hfz22_1
             try clear hfz33_0
             try clear hfz33_1
             try clear hfz39_0
             try clear hfz39_1
             try clear hfz42_0
             try clear hfz42_1
             try clear hfz45_0
             try clear hfz45_1
             try clear hfz47_0
             try clear hfz47_1
             try clear hfz53_0
             try clear hfz53_1
             try clear hfz56_0
             try clear hfz56_1
             try clear hfz59_0
             try clear hfz59_1
             try clear hx567_0
             try clear hx569_0
             try clear p2
             try clear p5
             try clear p56
             try clear p567
             try clear p569
             try clear q5
             try clear q56
             try clear q567
             try clear q569
             obtain ⟨kq, x117_60, rfl, HA, HJ60, BK560, HB⟩ := hcut
             cases kq with
             | zero => exact absurd HA.out (by simp [waterhourlaw04_RefillAttained.j3])
             | succ kj60 =>
              have H := HA.out
              clear HA
              simp only [waterhourlaw04_RefillAttained.j3] at H
              by_cases c66 : x117_60 = true
              ·subst c66
               have H1 : (some true) = some r := by rw [if_pos rfl] at H; exact H
               clear H
               have H := H1
               clear H1
               obtain rfl := Option.some.inj H
               go_wp2
               go_ret
               exact ⟨by first | rfl | (simp [errW_none, errW_some] <;> rfl) | (simp [*, errW_none, errW_some] <;> rfl), bl_⟩
              ·replace c66 := Bool.eq_false_iff.mpr c66
               subst c66
               have H1 : ((refill_Between.f kj60 l0 a3 a4).bind fun bt572 => ((refill_Time.f kj60 l0 a3).bind fun bt576 => ((refill_Time.f kj60 l0 a4).bind fun bt580 => (if bt572.2.2 = 0 then (if bt576.2.2 = 0 then (if bt580.2.2 = 0 then (waterhourlaw04_RefillAttained.j4 kj60 l0 a3 a4 a5 (decide (bt572.1 > bt572.2.1)) bt572.1 bt572.2.1 bt576.1 bt576.2.1 bt580.1 bt580.2.1) else (waterhourlaw04_RefillAttained.j4 kj60 l0 a3 a4 a5 true bt572.1 bt572.2.1 bt576.1 bt576.2.1 bt580.1 bt580.2.1)) else (waterhourlaw04_RefillAttained.j4 kj60 l0 a3 a4 a5 true bt572.1 bt572.2.1 bt576.1 bt576.2.1 bt580.1 bt580.2.1)) else (waterhourlaw04_RefillAttained.j4 kj60 l0 a3 a4 a5 true bt572.1 bt572.2.1 bt576.1 bt576.2.1 bt580.1 bt580.2.1))))) = some r := by rw [if_neg (show ¬ (false = true) by decide)] at H; exact H
               clear H
               have H := H1
               clear H1
               replace H := Option.bind_eq_some_iff.mp H
               obtain ⟨⟨t572, t573, t574⟩, A670, H⟩ := H
               replace H : ((refill_Time.f kj60 l0 a3).bind fun bt576 => ((refill_Time.f kj60 l0 a4).bind fun bt580 => (if t574 = 0 then (if bt576.2.2 = 0 then (if bt580.2.2 = 0 then (waterhourlaw04_RefillAttained.j4 kj60 l0 a3 a4 a5 (decide (t572 > t573)) t572 t573 bt576.1 bt576.2.1 bt580.1 bt580.2.1) else (waterhourlaw04_RefillAttained.j4 kj60 l0 a3 a4 a5 true t572 t573 bt576.1 bt576.2.1 bt580.1 bt580.2.1)) else (waterhourlaw04_RefillAttained.j4 kj60 l0 a3 a4 a5 true t572 t573 bt576.1 bt576.2.1 bt580.1 bt580.2.1)) else (waterhourlaw04_RefillAttained.j4 kj60 l0 a3 a4 a5 true t572 t573 bt576.1 bt576.2.1 bt580.1 bt580.2.1)))) = some r := H
               have A67 := a_ A670
               clear A670
               replace H := Option.bind_eq_some_iff.mp H
               obtain ⟨⟨t576, t577, t578⟩, A680, H⟩ := H
               replace H : ((refill_Time.f kj60 l0 a4).bind fun bt580 => (if t574 = 0 then (if t578 = 0 then (if bt580.2.2 = 0 then (waterhourlaw04_RefillAttained.j4 kj60 l0 a3 a4 a5 (decide (t572 > t573)) t572 t573 t576 t577 bt580.1 bt580.2.1) else (waterhourlaw04_RefillAttained.j4 kj60 l0 a3 a4 a5 true t572 t573 t576 t577 bt580.1 bt580.2.1)) else (waterhourlaw04_RefillAttained.j4 kj60 l0 a3 a4 a5 true t572 t573 t576 t577 bt580.1 bt580.2.1)) else (waterhourlaw04_RefillAttained.j4 kj60 l0 a3 a4 a5 true t572 t573 t576 t577 bt580.1 bt580.2.1))) = some r := H
               have A68 := a_ A680
               clear A680
               replace H := Option.bind_eq_some_iff.mp H
               obtain ⟨⟨t580, t581, t582⟩, A690, H⟩ := H
               replace H : (if t574 = 0 then (if t578 = 0 then (if t582 = 0 then (waterhourlaw04_RefillAttained.j4 kj60 l0 a3 a4 a5 (decide (t572 > t573)) t572 t573 t576 t577 t580 t581) else (waterhourlaw04_RefillAttained.j4 kj60 l0 a3 a4 a5 true t572 t573 t576 t577 t580 t581)) else (waterhourlaw04_RefillAttained.j4 kj60 l0 a3 a4 a5 true t572 t573 t576 t577 t580 t581)) else (waterhourlaw04_RefillAttained.j4 kj60 l0 a3 a4 a5 true t572 t573 t576 t577 t580 t581)) = some r := H
               have A69 := a_ A690
               clear A690
               have HC70 := a_ H
               clear H
               go_upto_region 18 with (first | ((with_reducible refine gate_callee (f := 44) rfl ?_); refine goesL_ (some 122) rfl rfl Tryd.func44 (by kernel_rfl) rfl #[.slice A0 l0.length c0, .int .i64 a3, .int .i64 a4] rfl tm_ ?_; (with_reducible refine (refill_Between.calls kj60 _ _ l0 a3 a4 t572 t573 t574 _ ?side1 ?side2 A67.out).mono ?_); (case side1 => exact cl_ (Kd.C_below HR0.out HB.out)); (case side2 => exact HC0.out); rintro e w71 ⟨rfl, hb⟩; refine ⟨_, rfl, ?_⟩; have n0_ := a_ (bb_ BK560.out hb); have n1_ := a_ (below_step bl_ hb); clear BK560; clear HB; have BK560 := n0_; have HB := n1_; clear n0_ n1_; (try clear hb); (try clear hb2); (try clear hk); (try clear hi)) | ((with_reducible refine gate_dst (N := 18) rfl ?_); (try (refine gate_guard (by rfl) ?_; dsimp only)); refine box_event ?hg (N := 18) ?hd (cs := #[.int .i64 0, .int .i64 0]) (t := 49) ?hr ?_; (case hd => rfl); (case hg => rfl); (case hr => first | (go_simp; done) | (go_simp; rfl)); intro gb575 hg w72 hbox hb; have n0_ := a_ (bb_ BK560.out hb); have n1_ := a_ (below_step bl_ hb); have n2_ := a_ (hbox); have n3_ := a_ ((bz_ (w := w) hg)); have n4_ := a_ ((bz_ (w := w) hg)); have n5_ := a_ ((nl_ BK560.out hg)); have n6_ := a_ ((ng_ BK560.out hg)); clear BK560; clear HB; have BK560 := n0_; have HB := n1_; have BK575 := n2_; have GW575 := n3_; have GE575 := n4_; have NB560_575 := n5_; have NB575_560 := n6_; clear n0_ n1_ n2_ n3_ n4_ n5_ n6_; clear hb hbox hg; have hnb73 := NB575_560.out; have hnc73 := NB560_575.out; have hcz74_0 : w72.cell? ⟨gb575, 0, none⟩ = some (.int .i64 0) := (blk_cell BK575.out 0).trans rfl; have hcz74_1 : w72.cell? ⟨gb575, 1, none⟩ = some (.int .i64 0) := (blk_cell BK575.out 1).trans rfl; have hfz74_0 := blk_frozen BK575.out 0; have hfz74_1 := blk_frozen BK575.out 1) | ((with_reducible refine gate_callee (f := 43) rfl ?_); refine goesL_ (some 128) rfl rfl Tryd.func43 (by kernel_rfl) rfl #[.slice A0 l0.length c0, .int .i64 a3] rfl tm_ ?_; (with_reducible refine (refill_Time.calls kj60 _ _ l0 a3 t576 t577 t578 _ ?side1 ?side2 A68.out).mono ?_); (case side1 => exact Kd.C_below HR0.out bl_); (case side2 => exact HC0.out); rintro e w75 ⟨rfl, hb⟩; refine ⟨_, rfl, ?_⟩; have n0_ := a_ (blk_below (g := gb560) (o := .cells #[.int .i64 t557, .int .i64 t558] 49 (0, 0)) (by (with_reducible repeat (first | refine blk_drewN ?_ _ | refine blk_drew ?_ | refine blk_alloc ?_ _)); refine blk_far ?_ NB560_575.out _; (with_reducible repeat (first | refine blk_drewN ?_ _ | refine blk_drew ?_ | refine blk_alloc ?_ _)); refine blk_far ?_ NB560_575.out _; (with_reducible repeat (first | refine blk_drewN ?_ _ | refine blk_drew ?_ | refine blk_alloc ?_ _)); exact BK560.out) hb); have n1_ := a_ (blk_below (g := gb575) (o := .cells #[.int .i64 t572, .int .i64 t573] 49 (0, 0)) (by (with_reducible repeat (first | refine blk_drewN ?_ _ | refine blk_drew ?_ | refine blk_alloc ?_ _)); refine blk_put (cs := #[.int .i64 t572, .int .i64 0]) ?_ 1 _ rfl; (with_reducible repeat (first | refine blk_drewN ?_ _ | refine blk_drew ?_ | refine blk_alloc ?_ _)); refine blk_put (cs := #[.int .i64 0, .int .i64 0]) ?_ 0 _ rfl; (with_reducible repeat (first | refine blk_drewN ?_ _ | refine blk_drew ?_ | refine blk_alloc ?_ _)); exact BK575.out) hb); have n2_ := a_ (below_step bl_ hb); clear BK560; clear BK575; clear HB; have BK560 := n0_; have BK575 := n1_; have HB := n2_; clear n0_ n1_ n2_; (try clear hb); (try clear hb2); (try clear hk); (try clear hi)) | ((with_reducible refine gate_dst (N := 19) rfl ?_); (try (refine gate_guard (by rfl) ?_; dsimp only)); refine box_event ?hg (N := 19) ?hd (cs := #[.int .i64 0, .int .i64 0]) (t := 49) ?hr ?_; (case hd => rfl); (case hg => rfl); (case hr => first | (go_simp; done) | (go_simp; rfl)); intro gb579 hg w76 hbox hb; have n0_ := a_ (bb_ BK560.out hb); have n1_ := a_ (bb_ BK575.out hb); have n2_ := a_ (below_step bl_ hb); have n3_ := a_ (hbox); have n4_ := a_ ((bz_ (w := w) hg)); have n5_ := a_ ((bz_ (w := w) hg)); have n6_ := a_ ((nl_ BK560.out hg)); have n7_ := a_ ((ng_ BK560.out hg)); have n8_ := a_ ((nl_ BK575.out hg)); have n9_ := a_ ((ng_ BK575.out hg)); clear BK560; clear BK575; clear HB; have BK560 := n0_; have BK575 := n1_; have HB := n2_; have BK579 := n3_; have GW579 := n4_; have GE579 := n5_; have NB560_579 := n6_; have NB579_560 := n7_; have NB575_579 := n8_; have NB579_575 := n9_; clear n0_ n1_ n2_ n3_ n4_ n5_ n6_ n7_ n8_ n9_; clear hb hbox hg; have hnb77 := NB579_560.out; have hnc77 := NB560_579.out; have hnb78 := NB579_575.out; have hnc78 := NB575_579.out; have hcz79_0 : w76.cell? ⟨gb579, 0, none⟩ = some (.int .i64 0) := (blk_cell BK579.out 0).trans rfl; have hcz79_1 : w76.cell? ⟨gb579, 1, none⟩ = some (.int .i64 0) := (blk_cell BK579.out 1).trans rfl; have hfz79_0 := blk_frozen BK579.out 0; have hfz79_1 := blk_frozen BK579.out 1) | ((with_reducible refine gate_callee (f := 43) rfl ?_); refine goesL_ (some 134) rfl rfl Tryd.func43 (by kernel_rfl) rfl #[.slice A0 l0.length c0, .int .i64 a4] rfl tm_ ?_; (with_reducible refine (refill_Time.calls kj60 _ _ l0 a4 t580 t581 t582 _ ?side1 ?side2 A69.out).mono ?_); (case side1 => exact Kd.C_below HR0.out bl_); (case side2 => exact HC0.out); rintro e w80 ⟨rfl, hb⟩; refine ⟨_, rfl, ?_⟩; have n0_ := a_ (blk_below (g := gb560) (o := .cells #[.int .i64 t557, .int .i64 t558] 49 (0, 0)) (by (with_reducible repeat (first | refine blk_drewN ?_ _ | refine blk_drew ?_ | refine blk_alloc ?_ _)); refine blk_far ?_ NB560_579.out _; (with_reducible repeat (first | refine blk_drewN ?_ _ | refine blk_drew ?_ | refine blk_alloc ?_ _)); refine blk_far ?_ NB560_579.out _; (with_reducible repeat (first | refine blk_drewN ?_ _ | refine blk_drew ?_ | refine blk_alloc ?_ _)); exact BK560.out) hb); have n1_ := a_ (blk_below (g := gb575) (o := .cells #[.int .i64 t572, .int .i64 t573] 49 (0, 0)) (by (with_reducible repeat (first | refine blk_drewN ?_ _ | refine blk_drew ?_ | refine blk_alloc ?_ _)); refine blk_far ?_ NB575_579.out _; (with_reducible repeat (first | refine blk_drewN ?_ _ | refine blk_drew ?_ | refine blk_alloc ?_ _)); refine blk_far ?_ NB575_579.out _; (with_reducible repeat (first | refine blk_drewN ?_ _ | refine blk_drew ?_ | refine blk_alloc ?_ _)); exact BK575.out) hb); have n2_ := a_ (blk_below (g := gb579) (o := .cells #[.int .i64 t576, .int .i64 t577] 49 (0, 0)) (by (with_reducible repeat (first | refine blk_drewN ?_ _ | refine blk_drew ?_ | refine blk_alloc ?_ _)); refine blk_put (cs := #[.int .i64 t576, .int .i64 0]) ?_ 1 _ rfl; (with_reducible repeat (first | refine blk_drewN ?_ _ | refine blk_drew ?_ | refine blk_alloc ?_ _)); refine blk_put (cs := #[.int .i64 0, .int .i64 0]) ?_ 0 _ rfl; (with_reducible repeat (first | refine blk_drewN ?_ _ | refine blk_drew ?_ | refine blk_alloc ?_ _)); exact BK579.out) hb); have n3_ := a_ (below_step bl_ hb); clear BK560; clear BK575; clear BK579; clear HB; have BK560 := n0_; have BK575 := n1_; have BK579 := n2_; have HB := n3_; clear n0_ n1_ n2_ n3_; (try clear hb); (try clear hb2); (try clear hk); (try clear hi)) | ((with_reducible refine gate_dst (N := 20) rfl ?_); (try (refine gate_guard (by rfl) ?_; dsimp only)); refine box_event ?hg (N := 20) ?hd (cs := #[.int .i64 0, .int .i64 0]) (t := 49) ?hr ?_; (case hd => rfl); (case hg => rfl); (case hr => first | (go_simp; done) | (go_simp; rfl)); intro gb583 hg w81 hbox hb; have n0_ := a_ (bb_ BK560.out hb); have n1_ := a_ (bb_ BK575.out hb); have n2_ := a_ (bb_ BK579.out hb); have n3_ := a_ (below_step bl_ hb); have n4_ := a_ (hbox); have n5_ := a_ ((bz_ (w := w) hg)); have n6_ := a_ ((bz_ (w := w) hg)); have n7_ := a_ ((nl_ BK560.out hg)); have n8_ := a_ ((ng_ BK560.out hg)); have n9_ := a_ ((nl_ BK575.out hg)); have n10_ := a_ ((ng_ BK575.out hg)); have n11_ := a_ ((nl_ BK579.out hg)); have n12_ := a_ ((ng_ BK579.out hg)); clear BK560; clear BK575; clear BK579; clear HB; have BK560 := n0_; have BK575 := n1_; have BK579 := n2_; have HB := n3_; have BK583 := n4_; have GW583 := n5_; have GE583 := n6_; have NB560_583 := n7_; have NB583_560 := n8_; have NB575_583 := n9_; have NB583_575 := n10_; have NB579_583 := n11_; have NB583_579 := n12_; clear n0_ n1_ n2_ n3_ n4_ n5_ n6_ n7_ n8_ n9_ n10_ n11_ n12_; clear hb hbox hg; have hnb82 := NB583_560.out; have hnc82 := NB560_583.out; have hnb83 := NB583_575.out; have hnc83 := NB575_583.out; have hnb84 := NB583_579.out; have hnc84 := NB579_583.out; have hcz85_0 : w81.cell? ⟨gb583, 0, none⟩ = some (.int .i64 0) := (blk_cell BK583.out 0).trans rfl; have hcz85_1 : w81.cell? ⟨gb583, 1, none⟩ = some (.int .i64 0) := (blk_cell BK583.out 1).trans rfl; have hfz85_0 := blk_frozen BK583.out 0; have hfz85_1 := blk_frozen BK583.out 1))
               (try simp only [Act.put, List.setIfInBounds_toArray, List.set_cons_zero, List.set_cons_succ])
               go_cut [153] (fun v153 wc => ∃ (kq : Nat) (x153_69 : Bool), v153 = .bool x153_69 ∧ Aside0 (waterhourlaw04_RefillAttained.j4 kq l0 a3 a4 a5 x153_69 t572 t573 t576 t577 t580 t581 = some r) ∧ Aside0 (kq ≤ kj60) ∧ Aside0 (wc.heap[gb560]? = some (.cells #[.int .i64 t557, .int .i64 t558] 49 (0, 0))) ∧ Aside0 (wc.heap[gb575]? = some (.cells #[.int .i64 t572, .int .i64 t573] 49 (0, 0))) ∧ Aside0 (wc.heap[gb579]? = some (.cells #[.int .i64 t576, .int .i64 t577] 49 (0, 0))) ∧ Aside0 (wc.heap[gb583]? = some (.cells #[.int .i64 t580, .int .i64 t581] 49 (0, 0))) ∧ Aside0 (Below w.heap.size w wc))
               case first => as_aux_lemma =>
                have H := HC70.out
                clear HC70
                by_cases c86 : t574 = 0
                ·rw [if_pos c86] at H
                 have c86b0 : (t574 == 0) = true := beq_iff_eq.mpr c86
                 have c86b1 : (t574 != 0) = false := bne_eq_false_iff_eq.mpr c86
                 clear c86
                 (first | rw [c86b0] | (simp only [i64_w, i32_w]; rw [c86b0]) | skip)
                 by_cases c87 : t578 = 0
                 ·rw [if_pos c87] at H
                  have c87b0 : (t578 == 0) = true := beq_iff_eq.mpr c87
                  have c87b1 : (t578 != 0) = false := bne_eq_false_iff_eq.mpr c87
                  clear c87
                  by_cases c88 : t582 = 0
                  ·rw [if_pos c88] at H
                   have c88b0 : (t582 == 0) = true := beq_iff_eq.mpr c88
                   have c88b1 : (t582 != 0) = false := bne_eq_false_iff_eq.mpr c88
                   clear c88
                   have H' := a_ H
                   clear H
                   have hnb89 := NB575_560.out
                   have hnc89 := NB560_575.out
                   have hnb90 := NB575_579.out
                   have hnc90 := NB579_575.out
                   have hnb91 := NB575_583.out
                   have hnc91 := NB583_575.out
                   have hcz92_0 : w81.cell? ⟨gb575, 0, none⟩ = some (.int .i64 t572) := (blk_cell BK575.out 0).trans rfl
                   have hcz92_1 : w81.cell? ⟨gb575, 1, none⟩ = some (.int .i64 t573) := (blk_cell BK575.out 1).trans rfl
                   have hfz92_0 := blk_frozen BK575.out 0
                   have hfz92_1 := blk_frozen BK575.out 1
                   go_wp2
                   go_meet
                   case rel => exact ⟨_, (decide (t572 > t573)), (by first | rfl | (simp; done) | (simp [*]; done)), H', ⟨by have := HJ8.out; have := HJ18.out; have := HJ29.out; have := HJ60.out; first | omega | exact Nat.le_refl _⟩, ⟨by (with_reducible repeat (first | refine blk_drewN ?_ _ | refine blk_drew ?_ | refine blk_alloc ?_ _)); refine blk_far ?_ NB560_583.out _; (with_reducible repeat (first | refine blk_drewN ?_ _ | refine blk_drew ?_ | refine blk_alloc ?_ _)); refine blk_far ?_ NB560_583.out _; (with_reducible repeat (first | refine blk_drewN ?_ _ | refine blk_drew ?_ | refine blk_alloc ?_ _)); exact BK560.out⟩, ⟨by (with_reducible repeat (first | refine blk_drewN ?_ _ | refine blk_drew ?_ | refine blk_alloc ?_ _)); refine blk_far ?_ NB575_583.out _; (with_reducible repeat (first | refine blk_drewN ?_ _ | refine blk_drew ?_ | refine blk_alloc ?_ _)); refine blk_far ?_ NB575_583.out _; (with_reducible repeat (first | refine blk_drewN ?_ _ | refine blk_drew ?_ | refine blk_alloc ?_ _)); exact BK575.out⟩, ⟨by (with_reducible repeat (first | refine blk_drewN ?_ _ | refine blk_drew ?_ | refine blk_alloc ?_ _)); refine blk_far ?_ NB579_583.out _; (with_reducible repeat (first | refine blk_drewN ?_ _ | refine blk_drew ?_ | refine blk_alloc ?_ _)); refine blk_far ?_ NB579_583.out _; (with_reducible repeat (first | refine blk_drewN ?_ _ | refine blk_drew ?_ | refine blk_alloc ?_ _)); exact BK579.out⟩, ⟨by (with_reducible repeat (first | refine blk_drewN ?_ _ | refine blk_drew ?_ | refine blk_alloc ?_ _)); refine blk_put (cs := #[.int .i64 t580, .int .i64 0]) ?_ 1 _ rfl; (with_reducible repeat (first | refine blk_drewN ?_ _ | refine blk_drew ?_ | refine blk_alloc ?_ _)); refine blk_put (cs := #[.int .i64 0, .int .i64 0]) ?_ 0 _ rfl; (with_reducible repeat (first | refine blk_drewN ?_ _ | refine blk_drew ?_ | refine blk_alloc ?_ _)); exact BK583.out⟩, ⟨bl_⟩⟩
                  ·rw [if_neg c88] at H
                   have c88b0 : (t582 == 0) = false := beq_eq_false_iff_ne.mpr c88
                   have c88b1 : (t582 != 0) = true := bne_iff_ne.mpr c88
                   have H' := a_ H
                   clear H
                   go_wp2
                   go_meet
                   case rel => exact ⟨_, (true), (by first | rfl | (simp; done) | (simp [*]; done)), H', ⟨by have := HJ8.out; have := HJ18.out; have := HJ29.out; have := HJ60.out; first | omega | exact Nat.le_refl _⟩, ⟨by (with_reducible repeat (first | refine blk_drewN ?_ _ | refine blk_drew ?_ | refine blk_alloc ?_ _)); refine blk_far ?_ NB560_583.out _; (with_reducible repeat (first | refine blk_drewN ?_ _ | refine blk_drew ?_ | refine blk_alloc ?_ _)); refine blk_far ?_ NB560_583.out _; (with_reducible repeat (first | refine blk_drewN ?_ _ | refine blk_drew ?_ | refine blk_alloc ?_ _)); exact BK560.out⟩, ⟨by (with_reducible repeat (first | refine blk_drewN ?_ _ | refine blk_drew ?_ | refine blk_alloc ?_ _)); refine blk_far ?_ NB575_583.out _; (with_reducible repeat (first | refine blk_drewN ?_ _ | refine blk_drew ?_ | refine blk_alloc ?_ _)); refine blk_far ?_ NB575_583.out _; (with_reducible repeat (first | refine blk_drewN ?_ _ | refine blk_drew ?_ | refine blk_alloc ?_ _)); exact BK575.out⟩, ⟨by (with_reducible repeat (first | refine blk_drewN ?_ _ | refine blk_drew ?_ | refine blk_alloc ?_ _)); refine blk_far ?_ NB579_583.out _; (with_reducible repeat (first | refine blk_drewN ?_ _ | refine blk_drew ?_ | refine blk_alloc ?_ _)); refine blk_far ?_ NB579_583.out _; (with_reducible repeat (first | refine blk_drewN ?_ _ | refine blk_drew ?_ | refine blk_alloc ?_ _)); exact BK579.out⟩, ⟨by (with_reducible repeat (first | refine blk_drewN ?_ _ | refine blk_drew ?_ | refine blk_alloc ?_ _)); refine blk_put (cs := #[.int .i64 t580, .int .i64 0]) ?_ 1 _ rfl; (with_reducible repeat (first | refine blk_drewN ?_ _ | refine blk_drew ?_ | refine blk_alloc ?_ _)); refine blk_put (cs := #[.int .i64 0, .int .i64 0]) ?_ 0 _ rfl; (with_reducible repeat (first | refine blk_drewN ?_ _ | refine blk_drew ?_ | refine blk_alloc ?_ _)); exact BK583.out⟩, ⟨bl_⟩⟩
                 ·rw [if_neg c87] at H
                  have c87b0 : (t578 == 0) = false := beq_eq_false_iff_ne.mpr c87
                  have c87b1 : (t578 != 0) = true := bne_iff_ne.mpr c87
                  have H' := a_ H
                  clear H
                  go_wp2
                  go_meet
                  case rel => exact ⟨_, (true), (by first | rfl | (simp; done) | (simp [*]; done)), H', ⟨by have := HJ8.out; have := HJ18.out; have := HJ29.out; have := HJ60.out; first | omega | exact Nat.le_refl _⟩, ⟨by (with_reducible repeat (first | refine blk_drewN ?_ _ | refine blk_drew ?_ | refine blk_alloc ?_ _)); refine blk_far ?_ NB560_583.out _; (with_reducible repeat (first | refine blk_drewN ?_ _ | refine blk_drew ?_ | refine blk_alloc ?_ _)); refine blk_far ?_ NB560_583.out _; (with_reducible repeat (first | refine blk_drewN ?_ _ | refine blk_drew ?_ | refine blk_alloc ?_ _)); exact BK560.out⟩, ⟨by (with_reducible repeat (first | refine blk_drewN ?_ _ | refine blk_drew ?_ | refine blk_alloc ?_ _)); refine blk_far ?_ NB575_583.out _; (with_reducible repeat (first | refine blk_drewN ?_ _ | refine blk_drew ?_ | refine blk_alloc ?_ _)); refine blk_far ?_ NB575_583.out _; (with_reducible repeat (first | refine blk_drewN ?_ _ | refine blk_drew ?_ | refine blk_alloc ?_ _)); exact BK575.out⟩, ⟨by (with_reducible repeat (first | refine blk_drewN ?_ _ | refine blk_drew ?_ | refine blk_alloc ?_ _)); refine blk_far ?_ NB579_583.out _; (with_reducible repeat (first | refine blk_drewN ?_ _ | refine blk_drew ?_ | refine blk_alloc ?_ _)); refine blk_far ?_ NB579_583.out _; (with_reducible repeat (first | refine blk_drewN ?_ _ | refine blk_drew ?_ | refine blk_alloc ?_ _)); exact BK579.out⟩, ⟨by (with_reducible repeat (first | refine blk_drewN ?_ _ | refine blk_drew ?_ | refine blk_alloc ?_ _)); refine blk_put (cs := #[.int .i64 t580, .int .i64 0]) ?_ 1 _ rfl; (with_reducible repeat (first | refine blk_drewN ?_ _ | refine blk_drew ?_ | refine blk_alloc ?_ _)); refine blk_put (cs := #[.int .i64 0, .int .i64 0]) ?_ 0 _ rfl; (with_reducible repeat (first | refine blk_drewN ?_ _ | refine blk_drew ?_ | refine blk_alloc ?_ _)); exact BK583.out⟩, ⟨bl_⟩⟩
                ·rw [if_neg c86] at H
                 have c86b0 : (t574 == 0) = false := beq_eq_false_iff_ne.mpr c86
                 have c86b1 : (t574 != 0) = true := bne_iff_ne.mpr c86
                 (first | rw [c86b0] | (simp only [i64_w, i32_w]; rw [c86b0]) | skip)
                 have H' := a_ H
                 clear H
                 go_wp2
                 go_meet
                 case rel => exact ⟨_, (true), (by first | rfl | (simp; done) | (simp [*]; done)), H', ⟨by have := HJ8.out; have := HJ18.out; have := HJ29.out; have := HJ60.out; first | omega | exact Nat.le_refl _⟩, ⟨by (with_reducible repeat (first | refine blk_drewN ?_ _ | refine blk_drew ?_ | refine blk_alloc ?_ _)); refine blk_far ?_ NB560_583.out _; (with_reducible repeat (first | refine blk_drewN ?_ _ | refine blk_drew ?_ | refine blk_alloc ?_ _)); refine blk_far ?_ NB560_583.out _; (with_reducible repeat (first | refine blk_drewN ?_ _ | refine blk_drew ?_ | refine blk_alloc ?_ _)); exact BK560.out⟩, ⟨by (with_reducible repeat (first | refine blk_drewN ?_ _ | refine blk_drew ?_ | refine blk_alloc ?_ _)); refine blk_far ?_ NB575_583.out _; (with_reducible repeat (first | refine blk_drewN ?_ _ | refine blk_drew ?_ | refine blk_alloc ?_ _)); refine blk_far ?_ NB575_583.out _; (with_reducible repeat (first | refine blk_drewN ?_ _ | refine blk_drew ?_ | refine blk_alloc ?_ _)); exact BK575.out⟩, ⟨by (with_reducible repeat (first | refine blk_drewN ?_ _ | refine blk_drew ?_ | refine blk_alloc ?_ _)); refine blk_far ?_ NB579_583.out _; (with_reducible repeat (first | refine blk_drewN ?_ _ | refine blk_drew ?_ | refine blk_alloc ?_ _)); refine blk_far ?_ NB579_583.out _; (with_reducible repeat (first | refine blk_drewN ?_ _ | refine blk_drew ?_ | refine blk_alloc ?_ _)); exact BK579.out⟩, ⟨by (with_reducible repeat (first | refine blk_drewN ?_ _ | refine blk_drew ?_ | refine blk_alloc ?_ _)); refine blk_put (cs := #[.int .i64 t580, .int .i64 0]) ?_ 1 _ rfl; (with_reducible repeat (first | refine blk_drewN ?_ _ | refine blk_drew ?_ | refine blk_alloc ?_ _)); refine blk_put (cs := #[.int .i64 0, .int .i64 0]) ?_ 0 _ rfl; (with_reducible repeat (first | refine blk_drewN ?_ _ | refine blk_drew ?_ | refine blk_alloc ?_ _)); exact BK583.out⟩, ⟨bl_⟩⟩
               case rest =>
                clear HC70
                try clear c1
                try clear c2
                try clear p2
                try clear c3
                try clear c4
                try clear c5
                try clear p5
                try clear q5
                try clear hx5
                try clear c6
                try clear c7
                try clear c8
                try clear c9
                try clear c12
                try clear c16
                try clear c18
                try clear c20
                try clear c24
                try clear c24b0
                try clear c24b1
                try clear c25
                try clear c25b0
                try clear c25b1
                try clear c26
                try clear c27
                try clear c27b0
                try clear c27b1
                try clear c28
                try clear c31
                try clear c31b0
                try clear c32
                try clear c32b0
                try clear c32b1
                try clear c32b2
                try clear c34
                try clear c36
                try clear c36b0
                try clear c36b1
                try clear c37
                try clear c37b0
                try clear c38
                try clear c38b0
                try clear c43
                try clear c44
                try clear c46
                try clear c46b0
                try clear c46b1
                try clear c46b2
                try clear c48
                try clear c50
                try clear c50b0
                try clear c50b1
                try clear c51
                try clear c51b0
                try clear c52
                try clear c52b0
                try clear p56
                try clear q56
                try clear hx56
                try clear c60
                try clear c63
                try clear c65
                try clear c66
                try clear c73
                try clear c77
                try clear c78
                try clear c82
                try clear c83
                try clear c84
                try clear c86
                try clear c86b0
                try clear c86b1
                try clear c87
                try clear c87b0
                try clear c87b1
                try clear c88
                try clear c88b0
                try clear c88b1
                try clear c89
                try clear c90
                try clear c91
                try clear hcz22_0
                try clear hcz22_1
                try clear hcz33_0
                try clear hcz33_1
                try clear hcz39_0
                try clear hcz39_1
                try clear hcz42_0
                try clear hcz42_1
                try clear hcz45_0
                try clear hcz45_1
                try clear hcz47_0
                try clear hcz47_1
                try clear hcz53_0
                try clear hcz53_1
                try clear hcz56_0
                try clear hcz56_1
                try clear hcz59_0
                try clear hcz59_1
                try clear hcz74_0
                try clear hcz74_1
                try clear hcz79_0
                try clear hcz79_1
                try clear hcz85_0
                try clear hcz85_1
                try clear hcz92_0
                try clear hcz92_1
                try clear hfz22_0
                try clear hfz22_1
                try clear hfz33_0
                try clear hfz33_1
                try clear hfz39_0
                try clear hfz39_1
                try clear hfz42_0
                try clear hfz42_1
                try clear hfz45_0
                try clear hfz45_1
                try clear hfz47_0
                try clear hfz47_1
                try clear hfz53_0
                try clear hfz53_1
                try clear hfz56_0
                try clear hfz56_1
                try clear hfz59_0
                try clear hfz59_1
                try clear hfz74_0
                try clear hfz74_1
                try clear hfz79_0
                try clear hfz79_1
                try clear hfz85_0
                try clear hfz85_1
                try clear hfz92_0
                try clear hfz92_1
                try clear hx567_0
                try clear hx569_0
                try clear p2
                try clear p5
                try clear p56
                try clear p567
                try clear p569
                try clear q5
                try clear q56
                try clear q567
                try clear q569
                obtain ⟨kq, x153_69, rfl, HA, HJ69, BK560, BK575, BK579, BK583, HB⟩ := hcut
                cases kq with
                | zero => exact absurd HA.out (by simp [waterhourlaw04_RefillAttained.j4])
                | succ kj69 =>
                 have H := HA.out
                 clear HA
                 simp only [waterhourlaw04_RefillAttained.j4] at H
                 by_cases c93 : x153_69 = true
                 ·subst c93
                  have H1 : (some false) = some r := by rw [if_pos rfl] at H; exact H
                  clear H
                  have H := H1
                  clear H1
                  exact absurd (H.trans (congrArg some hrt.out)) (by simp)
                 ·replace c93 := Bool.eq_false_iff.mpr c93
                  subst c93
                  have H1 : ((some (([t572, t573, mn (mx a5 t572) t573] : List Int) : List Int)).bind fun y584 => (waterhourlaw04_RefillAttained.l0 kj69 l0 a3 a4 y584 (y584.length : Int) 0 t576 t577 t580 t581)) = some r := by rw [if_neg (show ¬ (false = true) by decide)] at H; exact H
                  clear H
                  have H := H1
                  clear H1
                  obtain ⟨ji94, hji94⟩ : ∃ j_ : Int, (mx a5 t572) = j_ := ⟨_, rfl⟩
                  replace H : ((some (([t572, t573, mn (ji94) t573] : List Int) : List Int)).bind fun y584 => (waterhourlaw04_RefillAttained.l0 kj69 l0 a3 a4 y584 (y584.length : Int) 0 t576 t577 t580 t581)) = some r := by first | (rw [hji94] at H; exact H) | (simp only [hji94] at H ⊢; exact H)
                  have hji94_ : (if a5 < t572 then t572 else a5) = ji94 := hji94
                  obtain ⟨ji95, hji95⟩ : ∃ j_ : Int, (mn (ji94) t573) = j_ := ⟨_, rfl⟩
                  replace H : ((some (([t572, t573, ji95] : List Int) : List Int)).bind fun y584 => (waterhourlaw04_RefillAttained.l0 kj69 l0 a3 a4 y584 (y584.length : Int) 0 t576 t577 t580 t581)) = some r := by first | (rw [hji95] at H; exact H) | (simp only [hji95] at H ⊢; exact H)
                  have hji95_ : (if t573 < (ji94) then t573 else (ji94)) = ji95 := hji95
                  obtain ⟨y584, hy584⟩ : ∃ y_ : List Int, y_ = (([t572, t573, ji95] : List Int)) := ⟨_, rfl⟩
                  replace H : (waterhourlaw04_RefillAttained.l0 kj69 l0 a3 a4 y584 (y584.length : Int) 0 t576 t577 t580 t581) = some r := by first | (rw [hy584]; with_reducible exact H) | (have H2_ := (Option.bind_some _ _).symm.trans H; rw [hy584]; with_reducible exact H2_) | (have H2_ := (Option.bind_some _ _).symm.trans H; with_reducible exact H2_) | with_reducible exact H | (rw [hy584]; exact H) | exact H
                  have Ny584 := a_ hy584
                  clear hy584
                  have H' := a_ H
                  clear H
                  have hnb96 := NB575_560.out
                  have hnc96 := NB560_575.out
                  have hnb97 := NB575_579.out
                  have hnc97 := NB579_575.out
                  have hnb98 := NB575_583.out
                  have hnc98 := NB583_575.out
                  have hcz99_0 : wc.cell? ⟨gb575, 0, none⟩ = some (.int .i64 t572) := (blk_cell BK575.out 0).trans rfl
                  have hcz99_1 : wc.cell? ⟨gb575, 1, none⟩ = some (.int .i64 t573) := (blk_cell BK575.out 1).trans rfl
                  have hfz99_0 := blk_frozen BK575.out 0
                  have hfz99_1 := blk_frozen BK575.out 1
                  go_wp2_with (first | ((with_reducible refine gate_dst (N := 165) rfl ?_); (try (refine gate_guard (by rfl) ?_; dsimp only)); refine Kd.R_lit (Kd.int .i64) _ 3 ?hg (N := 165) ?hd (xs := ([t572, t573, ji95] : List Int)) (inner := [.int .i64 t572, .int .i64 t573, .int .i64 ji95]) (ok := fun _ => True) (okp := fun _ => True) ?hr ?hp (fun _ hk => hk) trivial (Below.refl _ _) (Nat.le_refl _) (by simp) ?_; (case hd => rfl); (case hg => rfl); (case hr => first | (go_simp; done) | (go_simp; rfl)); (case hp => exact (Reps.one (show Kd.M (Kd.int .i64) _ _ _ t572 [.int .i64 t572] from rfl) (Reps.one (show Kd.M (Kd.int .i64) _ _ _ t573 [.int .i64 t573] from rfl) (Reps.one (show Kd.M (Kd.int .i64) _ _ _ ji95 [.int .i64 ji95] from rfl) (Reps.none _ _))))); intro v585 w100 ho101 hb hg_ hnew_; clear hg_ hnew_; (first | rw [← Ny584.out] at ho101 | (simp only [Int.reduceToNat] at ho101; rw [← Ny584.out] at ho101)); have n0_ := a_ (Kd.R_lower ho101 (below_size bl_)); have n1_ := a_ (bb_ BK560.out hb); have n2_ := a_ (bb_ BK575.out hb); have n3_ := a_ (bb_ BK579.out hb); have n4_ := a_ (bb_ BK583.out hb); have n5_ := a_ (below_step bl_ hb); clear BK560; clear BK575; clear BK579; clear BK583; clear HB; have HO586 := n0_; have BK560 := n1_; have BK575 := n2_; have BK579 := n3_; have BK583 := n4_; have HB := n5_; clear n0_ n1_ n2_ n3_ n4_ n5_; clear hb ho101; obtain ⟨Ao102, co102, eo102⟩ := Kd.R_slice HO586.out; subst eo102))
                  go_loopg [167] kj69 (fun kq v167 w' => ∃ (x167_6 : Int), v167 = .int .i64 x167_6 ∧ Aside0 (waterhourlaw04_RefillAttained.l0 kq l0 a3 a4 y584 (y584.length : Int) x167_6 t576 t577 t580 t581 = some r) ∧ Aside0 (kq ≤ kj69) ∧ Aside0 (Kd.R (Kd.int .i64) 3 w' w.heap.size (fun _ => True) (.slice Ao102 y584.length co102) y584) ∧ Aside0 (w'.heap[gb560]? = some (.cells #[.int .i64 t557, .int .i64 t558] 49 (0, 0))) ∧ Aside0 (w'.heap[gb575]? = some (.cells #[.int .i64 t572, .int .i64 t573] 49 (0, 0))) ∧ Aside0 (w'.heap[gb579]? = some (.cells #[.int .i64 t576, .int .i64 t577] 49 (0, 0))) ∧ Aside0 (w'.heap[gb583]? = some (.cells #[.int .i64 t580, .int .i64 t581] 49 (0, 0))) ∧ Aside0 (Below w.heap.size w w'))
                  case atStart => exact ⟨(0), (by first | rfl | (simp; done) | (simp [*]; done)), H', ⟨Nat.le_refl _⟩, ⟨rl_ HO586.out⟩, ⟨bk_ BK560.out⟩, ⟨bk_ BK575.out⟩, ⟨bk_ BK579.out⟩, ⟨bk_ BK583.out⟩, ⟨bl_⟩⟩
                  case round => as_aux_lemma =>
                   clear H'
                   try clear c1
                   try clear c2
                   try clear p2
                   try clear c3
                   try clear c4
                   try clear c5
                   try clear p5
                   try clear q5
                   try clear hx5
                   try clear c6
                   try clear c7
                   try clear c8
                   try clear c9
                   try clear c12
                   try clear c16
                   try clear c18
                   try clear c20
                   try clear c24
                   try clear c24b0
                   try clear c24b1
                   try clear c25
                   try clear c25b0
                   try clear c25b1
                   try clear c26
                   try clear c27
                   try clear c27b0
                   try clear c27b1
                   try clear c28
                   try clear c31
                   try clear c31b0
                   try clear c32
                   try clear c32b0
                   try clear c32b1
                   try clear c32b2
                   try clear c34
                   try clear c36
                   try clear c36b0
                   try clear c36b1
                   try clear c37
                   try clear c37b0
                   try clear c38
                   try clear c38b0
                   try clear c43
                   try clear c44
                   try clear c46
                   try clear c46b0
                   try clear c46b1
                   try clear c46b2
                   try clear c48
                   try clear c50
                   try clear c50b0
                   try clear c50b1
                   try clear c51
                   try clear c51b0
                   try clear c52
                   try clear c52b0
                   try clear p56
                   try clear q56
                   try clear hx56
                   try clear c60
                   try clear c63
                   try clear c65
                   try clear c66
                   try clear c73
                   try clear c77
                   try clear c78
                   try clear c82
                   try clear c83
                   try clear c84
                   try clear c86
                   try clear c86b0
                   try clear c86b1
                   try clear c87
                   try clear c87b0
                   try clear c87b1
                   try clear c88
                   try clear c88b0
                   try clear c88b1
                   try clear c89
                   try clear c90
                   try clear c91
                   try clear c93
                   try clear c96
                   try clear c97
                   try clear c98
                   try clear hcz22_0
                   try clear hcz22_1
                   try clear hcz33_0
                   try clear hcz33_1
                   try clear hcz39_0
                   try clear hcz39_1
                   try clear hcz42_0
                   try clear hcz42_1
                   try clear hcz45_0
                   try clear hcz45_1
                   try clear hcz47_0
                   try clear hcz47_1
                   try clear hcz53_0
                   try clear hcz53_1
                   try clear hcz56_0
                   try clear hcz56_1
                   try clear hcz59_0
                   try clear hcz59_1
                   try clear hcz74_0
                   try clear hcz74_1
                   try clear hcz79_0
                   try clear hcz79_1
                   try clear hcz85_0
                   try clear hcz85_1
                   try clear hcz92_0
                   try clear hcz92_1
                   try clear hcz99_0
                   try clear hcz99_1
                   try clear hfz22_0
                   try clear hfz22_1
                   try clear hfz33_0
                   try clear hfz33_1
                   try clear hfz39_0
                   try clear hfz39_1
                   try clear hfz42_0
                   try clear hfz42_1
                   try clear hfz45_0
                   try clear hfz45_1
                   try clear hfz47_0
                   try clear hfz47_1
                   try clear hfz53_0
                   try clear hfz53_1
                   try clear hfz56_0
                   try clear hfz56_1
                   try clear hfz59_0
                   try clear hfz59_1
                   try clear hfz74_0
                   try clear hfz74_1
                   try clear hfz79_0
                   try clear hfz79_1
                   try clear hfz85_0
                   try clear hfz85_1
                   try clear hfz92_0
                   try clear hfz92_1
                   try clear hfz99_0
                   try clear hfz99_1
                   try clear hx567_0
                   try clear hx569_0
                   try clear p2
                   try clear p5
                   try clear p56
                   try clear p567
                   try clear p569
                   try clear q5
                   try clear q56
                   try clear q567
                   try clear q569
                   obtain ⟨x167_6, rfl, HA, HK6, HO_165, BK560, BK575, BK579, BK583, HB⟩ := hrel
                   cases gk with
                   | zero => exact absurd HA.out (by simp [waterhourlaw04_RefillAttained.l0])
                   | succ k6 =>
                    have H := HA.out
                    clear HA
                    simp only [waterhourlaw04_RefillAttained.l0] at H
                    by_cases c103 : x167_6 < (y584.length : Int)
                    ·rw [if_pos c103] at H
                     have c103b0 : decide (x167_6 < (y584.length : Int)) = true := decide_eq_true c103
                     clear c103
                     by_cases c104 : 0 ≤ x167_6
                     ·rw [if_pos c104] at H
                      have c104b0 : decide (0 ≤ x167_6) = true := decide_eq_true c104
                      clear c104
                      by_cases c105 : x167_6 < (y584.length : Int)
                      ·rw [if_pos c105] at H
                       have c105b0 : decide (x167_6 < (y584.length : Int)) = true := decide_eq_true c105
                       clear c105
                       obtain ⟨ji106, hji106⟩ : ∃ j_ : Int, (mx t576 (wrap64 (t580 - (rd y584 x167_6)))) = j_ := ⟨_, rfl⟩
                       replace H : ((refill_Known.f l0 a3 (ji106) (ji106)).bind fun bt588 => (if bt588.2 = 0 then ((refill_Attain.f k6 bt588.1 a4 (wrap64 ((ji106) + (rd y584 x167_6)))).bind fun bt592 => (if bt592.2.2 = 0 then (if bt592.2.1 = true then ((refill_CheckTimes.f l0 bt592.1).bind fun t597 => (if t597 = 0 then (if 0 ≤ a4 then (if a4 < (bt592.1.length : Int) then (if 0 ≤ a3 then (if a3 < (bt592.1.length : Int) then (if (wrap64 ((rd bt592.1 a4) - (rd bt592.1 a3))) = (rd y584 x167_6) then (waterhourlaw04_RefillAttained.l0 k6 l0 a3 a4 y584 (y584.length : Int) (wrap64 (x167_6 + 1)) t576 t577 t580 t581) else (some false)) else (none)) else (none)) else (none)) else (none)) else (some false))) else (some false)) else (some false))) else (some false))) = some r := by first | (rw [hji106] at H; exact H) | (simp only [hji106] at H ⊢; exact H)
                       have hji106_ : (if t576 < (wrap64 (t580 - (rd y584 x167_6))) then (wrap64 (t580 - (rd y584 x167_6))) else t576) = ji106 := hji106
                       replace H := Option.bind_eq_some_iff.mp H
                       obtain ⟨⟨t588, t591⟩, A1070, H⟩ := H
                       replace H : (if t591 = 0 then ((refill_Attain.f k6 t588 a4 (wrap64 ((ji106) + (rd y584 x167_6)))).bind fun bt592 => (if bt592.2.2 = 0 then (if bt592.2.1 = true then ((refill_CheckTimes.f l0 bt592.1).bind fun t597 => (if t597 = 0 then (if 0 ≤ a4 then (if a4 < (bt592.1.length : Int) then (if 0 ≤ a3 then (if a3 < (bt592.1.length : Int) then (if (wrap64 ((rd bt592.1 a4) - (rd bt592.1 a3))) = (rd y584 x167_6) then (waterhourlaw04_RefillAttained.l0 k6 l0 a3 a4 y584 (y584.length : Int) (wrap64 (x167_6 + 1)) t576 t577 t580 t581) else (some false)) else (none)) else (none)) else (none)) else (none)) else (some false))) else (some false)) else (some false))) else (some false)) = some r := H
                       have A107 := a_ A1070
                       clear A1070
                       by_cases c108 : t591 = 0
                       ·rw [if_pos c108] at H
                        have c108b0 : (t591 == 0) = true := beq_iff_eq.mpr c108
                        have c108b1 : (t591 != 0) = false := bne_eq_false_iff_eq.mpr c108
                        clear c108
                        replace H := Option.bind_eq_some_iff.mp H
                        obtain ⟨⟨t592, t593, t594⟩, A1090, H⟩ := H
                        replace H : (if t594 = 0 then (if t593 = true then ((refill_CheckTimes.f l0 t592).bind fun t597 => (if t597 = 0 then (if 0 ≤ a4 then (if a4 < (t592.length : Int) then (if 0 ≤ a3 then (if a3 < (t592.length : Int) then (if (wrap64 ((rd t592 a4) - (rd t592 a3))) = (rd y584 x167_6) then (waterhourlaw04_RefillAttained.l0 k6 l0 a3 a4 y584 (y584.length : Int) (wrap64 (x167_6 + 1)) t576 t577 t580 t581) else (some false)) else (none)) else (none)) else (none)) else (none)) else (some false))) else (some false)) else (some false)) = some r := H
                        have A109 := a_ A1090
                        clear A1090
                        by_cases c110 : t594 = 0
                        ·rw [if_pos c110] at H
                         have c110b0 : (t594 == 0) = true := beq_iff_eq.mpr c110
                         have c110b1 : (t594 != 0) = false := bne_eq_false_iff_eq.mpr c110
                         clear c110
                         by_cases c111 : t593 = true
                         ·subst c111
                          have H1 : ((refill_CheckTimes.f l0 t592).bind fun t597 => (if t597 = 0 then (if 0 ≤ a4 then (if a4 < (t592.length : Int) then (if 0 ≤ a3 then (if a3 < (t592.length : Int) then (if (wrap64 ((rd t592 a4) - (rd t592 a3))) = (rd y584 x167_6) then (waterhourlaw04_RefillAttained.l0 k6 l0 a3 a4 y584 (y584.length : Int) (wrap64 (x167_6 + 1)) t576 t577 t580 t581) else (some false)) else (none)) else (none)) else (none)) else (none)) else (some false))) = some r := by rw [if_pos rfl] at H; exact H
                          clear H
                          have H := H1
                          clear H1
                          replace H := Option.bind_eq_some_iff.mp H
                          obtain ⟨t597, A1120, H⟩ := H
                          replace H : (if t597 = 0 then (if 0 ≤ a4 then (if a4 < (t592.length : Int) then (if 0 ≤ a3 then (if a3 < (t592.length : Int) then (if (wrap64 ((rd t592 a4) - (rd t592 a3))) = (rd y584 x167_6) then (waterhourlaw04_RefillAttained.l0 k6 l0 a3 a4 y584 (y584.length : Int) (wrap64 (x167_6 + 1)) t576 t577 t580 t581) else (some false)) else (none)) else (none)) else (none)) else (none)) else (some false)) = some r := H
                          have A112 := a_ A1120
                          clear A1120
                          by_cases c113 : t597 = 0
                          ·rw [if_pos c113] at H
                           have c113b0 : (t597 == 0) = true := beq_iff_eq.mpr c113
                           have c113b1 : (t597 != 0) = false := bne_eq_false_iff_eq.mpr c113
                           clear c113
                           by_cases c114 : 0 ≤ a4
                           ·rw [if_pos c114] at H
                            have c114b0 : decide (0 ≤ a4) = true := decide_eq_true c114
                            clear c114
                            by_cases c115 : a4 < (t592.length : Int)
                            ·rw [if_pos c115] at H
                             have c115b0 : decide (a4 < (t592.length : Int)) = true := decide_eq_true c115
                             clear c115
                             by_cases c116 : 0 ≤ a3
                             ·rw [if_pos c116] at H
                              have c116b0 : decide (0 ≤ a3) = true := decide_eq_true c116
                              clear c116
                              by_cases c117 : a3 < (t592.length : Int)
                              ·rw [if_pos c117] at H
                               have c117b0 : decide (a3 < (t592.length : Int)) = true := decide_eq_true c117
                               clear c117
                               by_cases c118 : (wrap64 ((rd t592 a4) - (rd t592 a3))) = (rd y584 x167_6)
                               ·rw [if_pos c118] at H
                                have c118b0 : ((wrap64 ((rd t592 a4) - (rd t592 a3))) == (rd y584 x167_6)) = true := beq_iff_eq.mpr c118
                                have c118b1 : ((wrap64 ((rd t592 a4) - (rd t592 a3))) != (rd y584 x167_6)) = false := bne_eq_false_iff_eq.mpr c118
                                clear c118
                                have H' := a_ H
                                clear H
                                have p587 : 0 ≤ (x167_6 : Int) := of_decide_eq_true (by first | (with_reducible assumption) | assumption)
                                have q587 : x167_6 < (y584.length : Int) := of_decide_eq_true (by first | (with_reducible assumption) | assumption)
                                obtain ⟨ad587, e587, hx587_0⟩ := Kd.at_int (Kd.R_reads' HO_165.out).2.2 x167_6 p587 q587
                                cases e587
                                replace p587 := eq_true p587
                                replace q587 := eq_true q587
                                have hnb119 := NB579_560.out
                                have hnc119 := NB560_579.out
                                have hnb120 := NB579_575.out
                                have hnc120 := NB575_579.out
                                have hnb121 := NB579_583.out
                                have hnc121 := NB583_579.out
                                have hcz122_0 : wr.cell? ⟨gb579, 0, none⟩ = some (.int .i64 t576) := (blk_cell BK579.out 0).trans rfl
                                have hcz122_1 : wr.cell? ⟨gb579, 1, none⟩ = some (.int .i64 t577) := (blk_cell BK579.out 1).trans rfl
                                have hfz122_0 := blk_frozen BK579.out 0
                                have hfz122_1 := blk_frozen BK579.out 1
                                have hnb123 := NB583_560.out
                                have hnc123 := NB560_583.out
                                have hnb124 := NB583_575.out
                                have hnc124 := NB575_583.out
                                have hcz125_0 : wr.cell? ⟨gb583, 0, none⟩ = some (.int .i64 t580) := (blk_cell BK583.out 0).trans rfl
                                have hcz125_1 : wr.cell? ⟨gb583, 1, none⟩ = some (.int .i64 t581) := (blk_cell BK583.out 1).trans rfl
                                have hfz125_0 := blk_frozen BK583.out 0
                                have hfz125_1 := blk_frozen BK583.out 1
                                try go_wp2_with (first | ((with_reducible refine gate_callee (f := 45) rfl ?_); refine goesL_ (some 184) rfl rfl Tryd.func45 (by kernel_rfl) rfl #[.slice A0 l0.length c0, .int .i64 a3, .agg #[.int .i64 ji106, .int .i64 ji106]] rfl (by (try simp only [List.map_toArray, List.map_cons, List.map_nil]); first | done | (simp only [hji106]; rfl) | rfl | (simp only [List.length_drop, List.length_take]; rfl)) ?_; (with_reducible refine (refill_Known.calls _ _ l0 a3 ji106 ji106 t588 t591 _ ?side1 ?side2 A107.out).mono ?_); (case side1 => exact cl_ (Kd.C_below HR0.out HB.out)); (case side2 => exact HC0.out); rintro e w126 ⟨v589, rfl, ho0, hb⟩; refine ⟨_, rfl, ?_⟩; have n0_ := a_ (Kd.R_below (rl_ HO_165.out) hb); have n1_ := a_ (Kd.R_lower ho0 (below_size bl_)); have n2_ := a_ (bb_ BK560.out hb); have n3_ := a_ (bb_ BK575.out hb); have n4_ := a_ (bb_ BK579.out hb); have n5_ := a_ (bb_ BK583.out hb); have n6_ := a_ (below_step bl_ hb); clear HO_165; clear BK560; clear BK575; clear BK579; clear BK583; clear HB; have HO_165 := n0_; have HO590 := n1_; have BK560 := n2_; have BK575 := n3_; have BK579 := n4_; have BK583 := n5_; have HB := n6_; clear n0_ n1_ n2_ n3_ n4_ n5_ n6_; (try clear hb); (try clear hb2); (try clear hk); (try clear hi); (try clear ho0); obtain ⟨Ao127, co127, eo127⟩ := Kd.R_slice HO590.out; subst eo127) | ((with_reducible refine gate_callee (f := 20) rfl ?_); refine goesL_ (some 195) rfl rfl Tryd.func20 (by kernel_rfl) rfl #[.slice Ao127 t588.length co127, .int .i64 a4, .int .i64 (wrap64 ((ji106) + (rd y584 x167_6)))] rfl (by (try simp only [List.map_toArray, List.map_cons, List.map_nil]); first | done | (simp only [hji106]; rfl) | rfl | (simp only [List.length_drop, List.length_take]; rfl)) ?_; (with_reducible refine (refill_Attain.calls k6 _ _ t588 a4 (wrap64 ((ji106) + (rd y584 x167_6))) t592 true t594 _ ?side1 ?side2 A109.out).mono ?_); (case side1 => exact cl_ ((Kd.R_reads' HO590.out).2.2)); (case side2 => exact (Kd.R_reads' HO590.out).2.1); rintro e w128 ⟨v595, rfl, ho0, hb⟩; refine ⟨_, rfl, ?_⟩; have n0_ := a_ (Kd.R_elder' (rl_ HO_165.out) (Kd.R_base ho0) hb); have n1_ := a_ (Kd.R_below (rl_ HO590.out) hb); have n2_ := a_ (Kd.R_lower (Kd.R_new' ho0 (Kd.R_lt (rl_ HO_165.out))) (below_size bl_)); have n3_ := a_ (bb_ BK560.out hb); have n4_ := a_ (bb_ BK575.out hb); have n5_ := a_ (bb_ BK579.out hb); have n6_ := a_ (bb_ BK583.out hb); have n7_ := a_ (below_step bl_ hb); clear HO_165; clear HO590; clear BK560; clear BK575; clear BK579; clear BK583; clear HB; have HO_165 := n0_; have HO590 := n1_; have HO596 := n2_; have BK560 := n3_; have BK575 := n4_; have BK579 := n5_; have BK583 := n6_; have HB := n7_; clear n0_ n1_ n2_ n3_ n4_ n5_ n6_ n7_; (try clear hb); (try clear hb2); (try clear hk); (try clear hi); (try clear ho0)))
                                have n0_ := a_ (Kd.R_drew HO_165.out)
                                have n1_ := a_ (Kd.R_drew HO590.out)
                                have n2_ := a_ (Kd.R_drew HO596.out)
                                have n3_ := a_ (blk_drew BK560.out)
                                have n4_ := a_ (blk_drew BK575.out)
                                have n5_ := a_ (blk_drew BK579.out)
                                have n6_ := a_ (blk_drew BK583.out)
                                have n7_ := a_ (below_drew1 HB.out)
                                clear HO_165
                                clear HO590
                                clear HO596
                                clear BK560
                                clear BK575
                                clear BK579
                                clear BK583
                                clear HB
                                have HO_165 := n0_
                                have HO590 := n1_
                                have HO596 := n2_
                                have BK560 := n3_
                                have BK575 := n4_
                                have BK579 := n5_
                                have BK583 := n6_
                                have HB := n7_
                                clear n0_ n1_ n2_ n3_ n4_ n5_ n6_ n7_
                                obtain ⟨Ao130, co130, eo130⟩ := Kd.R_slice HO596.out
                                (first | subst eo130 | (injection eo130 with f1_ f2_ f3_; have f4_ := f1_.symm; have f5_ := f3_.symm; clear f1_ f2_ f3_; subst f4_; subst f5_))
                                have p598 : 0 ≤ (a4 : Int) := of_decide_eq_true (by first | (with_reducible assumption) | assumption)
                                have q598 : a4 < (t592.length : Int) := of_decide_eq_true (by first | (with_reducible assumption) | assumption)
                                obtain ⟨ad598, e598, hx598_0⟩ := Kd.at_int (Kd.R_reads' HO596.out).2.2 a4 p598 q598
                                cases e598
                                replace p598 := eq_true p598
                                replace q598 := eq_true q598
                                have p599 : 0 ≤ (a3 : Int) := of_decide_eq_true (by first | (with_reducible assumption) | assumption)
                                have q599 : a3 < (t592.length : Int) := of_decide_eq_true (by first | (with_reducible assumption) | assumption)
                                obtain ⟨ad599, e599, hx599_0⟩ := Kd.at_int (Kd.R_reads' HO596.out).2.2 a3 p599 q599
                                obtain rfl : ad598 = ad599 := (by injection e599)
                                replace p599 := eq_true p599
                                replace q599 := eq_true q599
                                refine start_ (n := 25) (S := fun w' => w'.cell? (ad598.add (a4).toNat) = some (.int .i64 (rd t592 a4)) ∧ w'.cell? (ad598.add (a3).toNat) = some (.int .i64 (rd t592 a3))) (ds := []) #[false, false, false, false, false, false, false, false, false, false, false, false, false, false, false, false, false, false, false, false, false, false, false, false, false] (by kernel_rfl) rfl rfl ⟨hx598_0, hx599_0⟩ (fun hHeld => ?_); refine with_tabW waterhourlaw04_RefillAttained.tab28 waterhourlaw04_RefillAttained.bits28 (fun HT_ HW_ => ?_)
                                generalize w128.drew = w129 at HO_165 HO590 HO596 BK560 BK575 BK579 BK583 HB hx598_0 hx599_0 hHeld ⊢
                                refine pz_ 0 199 HT_ ?_
                                refine pz_ 1 200 HT_ ?_
                                refine pz_ 2 201 HT_ ?_
                                refine pz_ 3 202 HT_ ?_
                                refine pz_ 4 203 HT_ ?_
                                refine pz_ 5 204 HT_ ?_
                                refine pz_ 6 205 HT_ ?_
                                refine pz_ 7 206 HT_ ?_
                                refine pz_ 8 207 HT_ ?_
                                refine one_ (i := 9) (N := some 208) #[true, true, true, true, true, true, true, true, true, true, false, false, false, false, false, false, false, false, false, false, false, false, false, false, false] rfl rfl (one_of HT_.out (by kernel_rfl)) (by decide) (fun K hK => ?_)
                                refine goes_ Tryd.func33 (by kernel_rfl) rfl #[.slice A0 l0.length c0, .slice (some ad598) t592.length co130] (by rfl) rfl rfl tm_ ?_
                                with_reducible refine (refill_CheckTimes.calls _ _ l0 _ _ t592 t597 _ ?side1 ?side2 ?side3 ?side4 A112.out).mono ?_
                                (case side1 => exact cl_ (Kd.C_below HR0.out HB.out))
                                (case side2 => exact HC0.out)
                                (case side3 => exact cl_ ((Kd.R_reads' HO596.out).2.2))
                                (case side4 => exact (Kd.R_reads' HO596.out).2.1)
                                rintro e w131 ⟨rfl, hb⟩
                                have HS0_ := (hb.cell (World.block_lt_of_cell? _ _ (hHeld.1))).trans (hHeld.1)
                                have HS1_ := (hb.cell (World.block_lt_of_cell? _ _ (hHeld.2))).trans (hHeld.2)
                                refine ⟨_, rfl, ?_⟩
                                have n0_ := a_ (Kd.R_below (rl_ HO_165.out) hb)
                                have n1_ := a_ (Kd.R_below (rl_ HO590.out) hb)
                                have n2_ := a_ (Kd.R_below (rl_ HO596.out) hb)
                                have n3_ := a_ (bb_ BK560.out hb)
                                have n4_ := a_ (bb_ BK575.out hb)
                                have n5_ := a_ (bb_ BK579.out hb)
                                have n6_ := a_ (bb_ BK583.out hb)
                                have n7_ := a_ (below_step bl_ hb)
                                clear HO_165
                                clear HO590
                                clear HO596
                                clear BK560
                                clear BK575
                                clear BK579
                                clear BK583
                                clear HB
                                have HO_165 := n0_
                                have HO590 := n1_
                                have HO596 := n2_
                                have BK560 := n3_
                                have BK575 := n4_
                                have BK579 := n5_
                                have BK583 := n6_
                                have HB := n7_
                                clear n0_ n1_ n2_ n3_ n4_ n5_ n6_ n7_
                                (try clear hb)
                                (try clear hb2)
                                (try clear hk)
                                (try clear hi)
                                refine hK.out _ _ ⟨HS0_, HS1_⟩ (fun hHeld => ?_)
                                clear hK K
                                refine norm_ (a' := ?_) ?_ ?_
                                rotate_left
                                ·show Act.put _ (some 208) _ = _
                                 simp only [Act.put, List.setIfInBounds_toArray, List.set_cons_zero, List.set_cons_succ, i64_w, i32_w]
                                 rfl
                                refine pz_ 10 209 HT_ ?_
                                refine pz_ 11 210 HT_ ?_
                                refine pz_ 12 211 HT_ ?_
                                refine pz_ 13 212 HT_ ?_
                                refine pz_ 14 213 HT_ ?_
                                refine pz_ 15 214 HT_ ?_
                                refine pz_ 17 216 HT_ ?_
                                refine pz_ 18 217 HT_ ?_
                                refine pz_ 19 218 HT_ ?_
                                refine pz_ 22 221 HT_ ?_
                                refine take_ (i := 16) (N := some 215) (v := ?_) (a' := ?_) #[true, true, true, true, true, true, true, true, true, true, true, true, true, true, true, true, true, true, true, true, false, false, true, false, false] rfl rfl (take_ofW HT_.out HW_.out (by kernel_rfl)) (fun _ _ _ h => h) (Or.inl ⟨by rfl, ?_⟩) hHeld ?_ ?_
                                rotate_left
                                ·rintro w' ⟨s0, s1⟩
                                 go_simp
                                 with_reducible rfl
                                rotate_left
                                ·simp only [Act.put, List.setIfInBounds_toArray, List.set_cons_zero, List.set_cons_succ, i64_w, i32_w]
                                 rfl
                                refine take_ (i := 20) (N := some 219) (v := ?_) (a' := ?_) #[true, true, true, true, true, true, true, true, true, true, true, true, true, true, true, true, true, true, true, true, true, false, true, false, false] rfl rfl (take_ofW HT_.out HW_.out (by kernel_rfl)) (fun _ _ _ h => h) (Or.inl ⟨by rfl, ?_⟩) hHeld ?_ ?_
                                rotate_left
                                ·rintro w' ⟨s0, s1⟩
                                 go_simp
                                 with_reducible rfl
                                rotate_left
                                ·simp only [Act.put, List.setIfInBounds_toArray, List.set_cons_zero, List.set_cons_succ, i64_w, i32_w]
                                 rfl
                                refine pz_ 21 220 HT_ ?_
                                refine pz_ 23 222 HT_ ?_
                                refine pz_ 24 223 HT_ ?_
                                refine done_ (done_of HT_.out (by kernel_rfl)) ?_
                                try go_wp2
                                go_roundg k6
                                case measure => have := HJ8.out; have := HJ18.out; have := HJ29.out; have := HJ60.out; have := HJ69.out; have := HK6.out; omega
                                case rel => exact ⟨(wrap64 (x167_6 + 1)), (by first | rfl | (simp; done) | (simp [*]; done)), H', ⟨by have := HJ8.out; have := HJ18.out; have := HJ29.out; have := HJ60.out; have := HJ69.out; have := HK6.out; omega⟩, ⟨rl_ (Kd.R_mono HO_165.out (fun _ hk => trivial))⟩, ⟨bk_ BK560.out⟩, ⟨bk_ BK575.out⟩, ⟨bk_ BK579.out⟩, ⟨bk_ BK583.out⟩, ⟨bl_⟩⟩
                               ·rw [if_neg c118] at H
                                have c118b0 : ((wrap64 ((rd t592 a4) - (rd t592 a3))) == (rd y584 x167_6)) = false := beq_eq_false_iff_ne.mpr c118
                                have c118b1 : ((wrap64 ((rd t592 a4) - (rd t592 a3))) != (rd y584 x167_6)) = true := bne_iff_ne.mpr c118
                                exact absurd (H.trans (congrArg some hrt.out)) (by simp)
                              ·rw [if_neg c117] at H
                               exact absurd H (by simp)
                             ·rw [if_neg c116] at H
                              exact absurd H (by simp)
                            ·rw [if_neg c115] at H
                             exact absurd H (by simp)
                           ·rw [if_neg c114] at H
                            exact absurd H (by simp)
                          ·rw [if_neg c113] at H
                           have c113b0 : (t597 == 0) = false := beq_eq_false_iff_ne.mpr c113
                           have c113b1 : (t597 != 0) = true := bne_iff_ne.mpr c113
                           exact absurd (H.trans (congrArg some hrt.out)) (by simp)
                         ·replace c111 := Bool.eq_false_iff.mpr c111
                          subst c111
                          have H1 : (some false) = some r := by rw [if_neg (show ¬ (false = true) by decide)] at H; exact H
                          clear H
                          have H := H1
                          clear H1
                          exact absurd (H.trans (congrArg some hrt.out)) (by simp)
                        ·rw [if_neg c110] at H
                         have c110b0 : (t594 == 0) = false := beq_eq_false_iff_ne.mpr c110
                         have c110b1 : (t594 != 0) = true := bne_iff_ne.mpr c110
                         exact absurd (H.trans (congrArg some hrt.out)) (by simp)
                       ·rw [if_neg c108] at H
                        have c108b0 : (t591 == 0) = false := beq_eq_false_iff_ne.mpr c108
                        have c108b1 : (t591 != 0) = true := bne_iff_ne.mpr c108
                        exact absurd (H.trans (congrArg some hrt.out)) (by simp)
                      ·rw [if_neg c105] at H
                       exact absurd H (by simp)
                     ·rw [if_neg c104] at H
                      exact absurd H (by simp)
                    ·rw [if_neg c103] at H
                     have c103b0 : decide (x167_6 < (y584.length : Int)) = false := decide_eq_false c103
                     clear c103
                     obtain rfl := Option.some.inj H
                     go_wp2
                     go_ret
                     exact ⟨by first | rfl | (simp [errW_none, errW_some] <;> rfl) | (simp only [← hji94, ← hji95]; first | rfl | (simp [errW_none, errW_some] <;> rfl)) | (simp [*, errW_none, errW_some] <;> rfl), bl_⟩
 ·replace c8 := Bool.eq_false_iff.mpr c8
  subst c8
  have H1 : (some false) = some r := by rw [if_neg (show ¬ (false = true) by decide)] at H; exact H
  clear H
  have H := H1
  clear H1
  exact absurd (H.trans (congrArg some hrt.out)) (by simp)

end Go.Proofs.YtgiihjcpgjpkcaaDoor.Q
