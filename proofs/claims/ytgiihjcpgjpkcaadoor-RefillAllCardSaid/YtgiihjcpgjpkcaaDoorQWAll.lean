/- Contracts of functions of the given program: each Go function as a plain Lean function (name.f) and the proof that its call answers just so, for every reading of its arguments. Written by the session's program wip/xprint.py out of the translation. -/
import Derived.Test.YtgiihjcpgjpkcaaDoorQ0
import Derived.Test.YtgiihjcpgjpkcaaDoorHWords
import Derived.Test.YtgiihjcpgjpkcaaDoorQC
import Derived.Test.YtgiihjcpgjpkcaaDoorQF
import Derived.Test.YtgiihjcpgjpkcaaDoorQG
import Derived.Test.YtgiihjcpgjpkcaaDoorQI
import Derived.Test.YtgiihjcpgjpkcaaDoorQO
import Derived.Test.YtgiihjcpgjpkcaaDoorHCheck
import Derived.Test.YtgiihjcpgjpkcaaDoorHEnds
import Derived.Test.YtgiihjcpgjpkcaaDoorHSane
namespace Go.Proofs.YtgiihjcpgjpkcaaDoor.Q
open Go.RowKit Go.Proofs.YtgiihjcpgjpkcaaDoorW.PrintWords Go.Proofs.YtgiihjcpgjpkcaaDoorW.PrintLast Go.Proofs.YtgiihjcpgjpkcaaDoorW.PrintMore
attribute [local go_sem] max2_int min2_int max_two min_two max_three min_three max_four min_four   -- for this text's walks alone
set_option linter.unusedVariables false
set_option linter.unusedSimpArgs false

/-! ### waterhourlaw04_RefillAll: function 8 -/
mutual
def waterhourlaw04_RefillAll.j0 : Nat → List (S51) → List Int → List Int → Int → Int → Bool → Option (Bool)
 | 0, _, _, _, _, _, _ => none
 | k + 1, x0, x1, x2, x3, x4, x39 => if x39 = true then (some true) else ((refill_Possible.f k x0).bind fun bt521 => ((refill_Clash.f k x0).bind fun bt523 => ((refill_Earliest.f x0).bind fun bt527 => ((refill_Latest.f x0).bind fun bt531 => (if bt521.2 = 0 then (if bt523.2.2.2 = 0 then (waterhourlaw04_RefillAll.j1 k x0 x1 x2 x3 x4 bt521.1 bt523.1 bt523.2.1 bt527.1 bt527.2 bt531.1 bt531.2 (bt521.1 == bt523.2.2.1)) else (waterhourlaw04_RefillAll.j1 k x0 x1 x2 x3 x4 bt521.1 bt523.1 bt523.2.1 bt527.1 bt527.2 bt531.1 bt531.2 true)) else (waterhourlaw04_RefillAll.j1 k x0 x1 x2 x3 x4 bt521.1 bt523.1 bt523.2.1 bt527.1 bt527.2 bt531.1 bt531.2 true))))))
def waterhourlaw04_RefillAll.j1 : Nat → List (S51) → List Int → List Int → Int → Int → Bool → Int → Int → List Int → Int → List Int → Int → Bool → Option (Bool)
 | 0, _, _, _, _, _, _, _, _, _, _, _, _, _ => none
 | k + 1, x0, x1, x2, x3, x4, x11, x13, x14, x17, x18, x19, x20, x72 => if x72 = true then (some false) else ((refill_CheckTimes.f x0 x1).bind fun t535 => ((refill_CheckTimes.f x0 x2).bind fun t536 => (if x11 = true then (if x18 = 0 then (if x20 = 0 then ((refill_CheckTimes.f x0 x17).bind fun t538 => (if t538 = 0 then ((refill_CheckTimes.f x0 x19).bind fun t539 => (if t539 = 0 then (if (x17.length : Int) = (x0.length : Int) then (if (x19.length : Int) = (x0.length : Int) then ((refill_CheckClash.f k x0 x3 x4).bind fun t540 => (waterhourlaw04_RefillAll.j2 k x0 x1 x2 x17 x19 (t535 == 0) (t536 == 0) (t540 == 0))) else (waterhourlaw04_RefillAll.j2 k x0 x1 x2 x17 x19 (t535 == 0) (t536 == 0) true)) else (waterhourlaw04_RefillAll.j2 k x0 x1 x2 x17 x19 (t535 == 0) (t536 == 0) true)) else (waterhourlaw04_RefillAll.j2 k x0 x1 x2 x17 x19 (t535 == 0) (t536 == 0) true))) else (waterhourlaw04_RefillAll.j2 k x0 x1 x2 x17 x19 (t535 == 0) (t536 == 0) true))) else (waterhourlaw04_RefillAll.j2 k x0 x1 x2 x17 x19 (t535 == 0) (t536 == 0) true)) else (waterhourlaw04_RefillAll.j2 k x0 x1 x2 x17 x19 (t535 == 0) (t536 == 0) true)) else (if x18 = 31 then (if x20 = 31 then ((refill_CheckClash.f k x0 x13 x14).bind fun t537 => (if t537 = 0 then (if t535 = 0 then (some false) else (some (!(t536 == 0)))) else (some false))) else (some false)) else (some false)))))
def waterhourlaw04_RefillAll.j2 : Nat → List (S51) → List Int → List Int → List Int → List Int → Bool → Bool → Bool → Option (Bool)
 | 0, _, _, _, _, _, _, _, _ => none
 | k + 1, x0, x1, x2, x17, x19, x21, x22, x142 => if x142 = true then (some false) else (waterhourlaw04_RefillAll.l0 k x0 x1 x2 x17 x19 x21 x22 (x0.length : Int) 0)
def waterhourlaw04_RefillAll.l0 : Nat → List (S51) → List Int → List Int → List Int → List Int → Bool → Bool → Int → Int → Option (Bool)
 | 0, _, _, _, _, _, _, _, _, _ => none
 | k + 1, x0, x1, x2, x17, x19, x21, x22, x144, x145 => if x145 < x144 then (if x21 = true then (if (x1.length : Int) = (x0.length : Int) then (if 0 ≤ x145 then (if x145 < (x1.length : Int) then (if x145 < (x17.length : Int) then (if (rd x1 x145) < (rd x17 x145) then (some false) else (if x145 < (x19.length : Int) then (if (rd x1 x145) > (rd x19 x145) then (some false) else (waterhourlaw04_RefillAll.l0 k x0 x1 x2 x17 x19 x21 x22 x144 (wrap64 (x145 + 1)))) else (none))) else (none)) else (none)) else (none)) else (some false)) else (waterhourlaw04_RefillAll.l0 k x0 x1 x2 x17 x19 x21 x22 x144 (wrap64 (x145 + 1)))) else (if x21 = true then (if x22 = true then (waterhourlaw04_RefillAll.j4 k x0 x1 x2 x21 x22 ((x2.length : Int) != (x1.length : Int))) else (waterhourlaw04_RefillAll.j4 k x0 x1 x2 x21 x22 true)) else (waterhourlaw04_RefillAll.j4 k x0 x1 x2 x21 x22 true))
def waterhourlaw04_RefillAll.j4 : Nat → List (S51) → List Int → List Int → Bool → Bool → Bool → Option (Bool)
 | 0, _, _, _, _, _, _ => none
 | k + 1, x0, x1, x2, x21, x22, x191 => if x191 = true then (if x21 = true then (some (!x22)) else (some true)) else (waterhourlaw04_RefillAll.l1 k x0 x1 x2 ([] : List Int) ([] : List Int) (x1.length : Int) 0)
def waterhourlaw04_RefillAll.l1 : Nat → List (S51) → List Int → List Int → List Int → List Int → Int → Int → Option (Bool)
 | 0, _, _, _, _, _, _, _ => none
 | k + 1, x0, x1, x2, x24, x25, x199, x200 => if x200 < x199 then (if 0 ≤ x200 then (if x200 < (x1.length : Int) then (if x200 < (x2.length : Int) then ((some (([mn (rd x1 x200) (rd x2 x200)] : List Int) : List Int)).bind fun y547 => (if x24.length + y547.length < 17592186044416 then ((some (([mx (rd x1 x200) (rd x2 x200)] : List Int) : List Int)).bind fun y555 => (if x25.length + y555.length < 17592186044416 then (waterhourlaw04_RefillAll.l1 k x0 x1 x2 (x24 ++ y547) (x25 ++ y555) x199 (wrap64 (x200 + 1))) else (none))) else (none))) else (none)) else (none)) else (none)) else ((refill_CheckTimes.f x0 x24).bind fun t561 => (if t561 = 0 then ((refill_CheckTimes.f x0 x25).bind fun t562 => (some (t562 == 0))) else (some false)))
end
def waterhourlaw04_RefillAll.f (k : Nat) (l0 : List (S51)) (l1 : List Int) (l2 : List Int) (a3 : Int) (a4 : Int) : Option (Bool) := (law_sane.f).bind fun t515 => (if t515 = true then ((waterhourref04_Valid.f k l0).bind fun t516 => (if t516 = true then ((waterhourlaw04_few.f k l0 (([l1, l2] : List (List Int)))).bind fun t520 => (waterhourlaw04_RefillAll.j0 k l0 l1 l2 a3 a4 (!t520))) else (waterhourlaw04_RefillAll.j0 k l0 l1 l2 a3 a4 true))) else (some false))
theorem waterhourlaw04_RefillAll.mono_l : ∀ k, (∀ y0 y1 y2 y3 y4 y5, LeO (waterhourlaw04_RefillAll.j0 k y0 y1 y2 y3 y4 y5) (waterhourlaw04_RefillAll.j0 (k + 1) y0 y1 y2 y3 y4 y5)) ∧ (∀ y0 y1 y2 y3 y4 y5 y6 y7 y8 y9 y10 y11 y12, LeO (waterhourlaw04_RefillAll.j1 k y0 y1 y2 y3 y4 y5 y6 y7 y8 y9 y10 y11 y12) (waterhourlaw04_RefillAll.j1 (k + 1) y0 y1 y2 y3 y4 y5 y6 y7 y8 y9 y10 y11 y12)) ∧ (∀ y0 y1 y2 y3 y4 y5 y6 y7, LeO (waterhourlaw04_RefillAll.j2 k y0 y1 y2 y3 y4 y5 y6 y7) (waterhourlaw04_RefillAll.j2 (k + 1) y0 y1 y2 y3 y4 y5 y6 y7)) ∧ (∀ y0 y1 y2 y3 y4 y5 y6 y7 y8, LeO (waterhourlaw04_RefillAll.l0 k y0 y1 y2 y3 y4 y5 y6 y7 y8) (waterhourlaw04_RefillAll.l0 (k + 1) y0 y1 y2 y3 y4 y5 y6 y7 y8)) ∧ (∀ y0 y1 y2 y3 y4 y5, LeO (waterhourlaw04_RefillAll.j4 k y0 y1 y2 y3 y4 y5) (waterhourlaw04_RefillAll.j4 (k + 1) y0 y1 y2 y3 y4 y5)) ∧ (∀ y0 y1 y2 y3 y4 y5 y6, LeO (waterhourlaw04_RefillAll.l1 k y0 y1 y2 y3 y4 y5 y6) (waterhourlaw04_RefillAll.l1 (k + 1) y0 y1 y2 y3 y4 y5 y6))
 | 0 => ⟨fun _ _ _ _ _ _ r h => by simp [waterhourlaw04_RefillAll.j0] at h, fun _ _ _ _ _ _ _ _ _ _ _ _ _ r h => by simp [waterhourlaw04_RefillAll.j1] at h, fun _ _ _ _ _ _ _ _ r h => by simp [waterhourlaw04_RefillAll.j2] at h, fun _ _ _ _ _ _ _ _ _ r h => by simp [waterhourlaw04_RefillAll.l0] at h, fun _ _ _ _ _ _ r h => by simp [waterhourlaw04_RefillAll.j4] at h, fun _ _ _ _ _ _ _ r h => by simp [waterhourlaw04_RefillAll.l1] at h⟩
 | k + 1 => by
  obtain ⟨ih0, ih1, ih2, ih3, ih4, ih5⟩ := waterhourlaw04_RefillAll.mono_l k
  refine ⟨?_, ?_, ?_, ?_, ?_, ?_⟩
  ·intro y0 y1 y2 y3 y4 y5
   unfold waterhourlaw04_RefillAll.j0
   repeat' first
   | (with_reducible exact ih0 _ _ _ _ _ _)
   | (with_reducible exact ih1 _ _ _ _ _ _ _ _ _ _ _ _ _)
   | (with_reducible exact ih2 _ _ _ _ _ _ _ _)
   | (with_reducible exact ih3 _ _ _ _ _ _ _ _ _)
   | (with_reducible exact ih4 _ _ _ _ _ _)
   | (with_reducible exact ih5 _ _ _ _ _ _ _)
   | (with_reducible exact refill_CheckClash.mono _ _ _ _)
   | (with_reducible exact refill_Clash.mono _ _)
   | (with_reducible exact refill_Possible.mono _ _)
   | (with_reducible exact waterhourlaw04_few.mono _ _ _)
   | (with_reducible exact waterhourref04_Valid.mono _ _)
   | (with_reducible exact LeO.refl _)
   | (with_reducible exact LeO.none _)
   | (with_reducible refine LeO.ite ?_ ?_)
   | (with_reducible refine LeO.bind ?_ (fun _ => ?_))
   | exact ih0 _ _ _ _ _ _
   | exact ih1 _ _ _ _ _ _ _ _ _ _ _ _ _
   | exact ih2 _ _ _ _ _ _ _ _
   | exact ih3 _ _ _ _ _ _ _ _ _
   | exact ih4 _ _ _ _ _ _
   | exact ih5 _ _ _ _ _ _ _
   | exact refill_CheckClash.mono _ _ _ _
   | exact refill_Clash.mono _ _
   | exact refill_Possible.mono _ _
   | exact waterhourlaw04_few.mono _ _ _
   | exact waterhourref04_Valid.mono _ _
   | exact LeO.none _
   | refine LeO.ite ?_ ?_
   | refine LeO.bind ?_ (fun _ => ?_)
  ·intro y0 y1 y2 y3 y4 y5 y6 y7 y8 y9 y10 y11 y12
   unfold waterhourlaw04_RefillAll.j1
   repeat' first
   | (with_reducible exact ih0 _ _ _ _ _ _)
   | (with_reducible exact ih1 _ _ _ _ _ _ _ _ _ _ _ _ _)
   | (with_reducible exact ih2 _ _ _ _ _ _ _ _)
   | (with_reducible exact ih3 _ _ _ _ _ _ _ _ _)
   | (with_reducible exact ih4 _ _ _ _ _ _)
   | (with_reducible exact ih5 _ _ _ _ _ _ _)
   | (with_reducible exact refill_CheckClash.mono _ _ _ _)
   | (with_reducible exact refill_Clash.mono _ _)
   | (with_reducible exact refill_Possible.mono _ _)
   | (with_reducible exact waterhourlaw04_few.mono _ _ _)
   | (with_reducible exact waterhourref04_Valid.mono _ _)
   | (with_reducible exact LeO.refl _)
   | (with_reducible exact LeO.none _)
   | (with_reducible refine LeO.ite ?_ ?_)
   | (with_reducible refine LeO.bind ?_ (fun _ => ?_))
   | exact ih0 _ _ _ _ _ _
   | exact ih1 _ _ _ _ _ _ _ _ _ _ _ _ _
   | exact ih2 _ _ _ _ _ _ _ _
   | exact ih3 _ _ _ _ _ _ _ _ _
   | exact ih4 _ _ _ _ _ _
   | exact ih5 _ _ _ _ _ _ _
   | exact refill_CheckClash.mono _ _ _ _
   | exact refill_Clash.mono _ _
   | exact refill_Possible.mono _ _
   | exact waterhourlaw04_few.mono _ _ _
   | exact waterhourref04_Valid.mono _ _
   | exact LeO.none _
   | refine LeO.ite ?_ ?_
   | refine LeO.bind ?_ (fun _ => ?_)
  ·intro y0 y1 y2 y3 y4 y5 y6 y7
   unfold waterhourlaw04_RefillAll.j2
   repeat' first
   | (with_reducible exact ih0 _ _ _ _ _ _)
   | (with_reducible exact ih1 _ _ _ _ _ _ _ _ _ _ _ _ _)
   | (with_reducible exact ih2 _ _ _ _ _ _ _ _)
   | (with_reducible exact ih3 _ _ _ _ _ _ _ _ _)
   | (with_reducible exact ih4 _ _ _ _ _ _)
   | (with_reducible exact ih5 _ _ _ _ _ _ _)
   | (with_reducible exact refill_CheckClash.mono _ _ _ _)
   | (with_reducible exact refill_Clash.mono _ _)
   | (with_reducible exact refill_Possible.mono _ _)
   | (with_reducible exact waterhourlaw04_few.mono _ _ _)
   | (with_reducible exact waterhourref04_Valid.mono _ _)
   | (with_reducible exact LeO.refl _)
   | (with_reducible exact LeO.none _)
   | (with_reducible refine LeO.ite ?_ ?_)
   | (with_reducible refine LeO.bind ?_ (fun _ => ?_))
   | exact ih0 _ _ _ _ _ _
   | exact ih1 _ _ _ _ _ _ _ _ _ _ _ _ _
   | exact ih2 _ _ _ _ _ _ _ _
   | exact ih3 _ _ _ _ _ _ _ _ _
   | exact ih4 _ _ _ _ _ _
   | exact ih5 _ _ _ _ _ _ _
   | exact refill_CheckClash.mono _ _ _ _
   | exact refill_Clash.mono _ _
   | exact refill_Possible.mono _ _
   | exact waterhourlaw04_few.mono _ _ _
   | exact waterhourref04_Valid.mono _ _
   | exact LeO.none _
   | refine LeO.ite ?_ ?_
   | refine LeO.bind ?_ (fun _ => ?_)
  ·intro y0 y1 y2 y3 y4 y5 y6 y7 y8
   unfold waterhourlaw04_RefillAll.l0
   repeat' first
   | (with_reducible exact ih0 _ _ _ _ _ _)
   | (with_reducible exact ih1 _ _ _ _ _ _ _ _ _ _ _ _ _)
   | (with_reducible exact ih2 _ _ _ _ _ _ _ _)
   | (with_reducible exact ih3 _ _ _ _ _ _ _ _ _)
   | (with_reducible exact ih4 _ _ _ _ _ _)
   | (with_reducible exact ih5 _ _ _ _ _ _ _)
   | (with_reducible exact refill_CheckClash.mono _ _ _ _)
   | (with_reducible exact refill_Clash.mono _ _)
   | (with_reducible exact refill_Possible.mono _ _)
   | (with_reducible exact waterhourlaw04_few.mono _ _ _)
   | (with_reducible exact waterhourref04_Valid.mono _ _)
   | (with_reducible exact LeO.refl _)
   | (with_reducible exact LeO.none _)
   | (with_reducible refine LeO.ite ?_ ?_)
   | (with_reducible refine LeO.bind ?_ (fun _ => ?_))
   | exact ih0 _ _ _ _ _ _
   | exact ih1 _ _ _ _ _ _ _ _ _ _ _ _ _
   | exact ih2 _ _ _ _ _ _ _ _
   | exact ih3 _ _ _ _ _ _ _ _ _
   | exact ih4 _ _ _ _ _ _
   | exact ih5 _ _ _ _ _ _ _
   | exact refill_CheckClash.mono _ _ _ _
   | exact refill_Clash.mono _ _
   | exact refill_Possible.mono _ _
   | exact waterhourlaw04_few.mono _ _ _
   | exact waterhourref04_Valid.mono _ _
   | exact LeO.none _
   | refine LeO.ite ?_ ?_
   | refine LeO.bind ?_ (fun _ => ?_)
  ·intro y0 y1 y2 y3 y4 y5
   unfold waterhourlaw04_RefillAll.j4
   repeat' first
   | (with_reducible exact ih0 _ _ _ _ _ _)
   | (with_reducible exact ih1 _ _ _ _ _ _ _ _ _ _ _ _ _)
   | (with_reducible exact ih2 _ _ _ _ _ _ _ _)
   | (with_reducible exact ih3 _ _ _ _ _ _ _ _ _)
   | (with_reducible exact ih4 _ _ _ _ _ _)
   | (with_reducible exact ih5 _ _ _ _ _ _ _)
   | (with_reducible exact refill_CheckClash.mono _ _ _ _)
   | (with_reducible exact refill_Clash.mono _ _)
   | (with_reducible exact refill_Possible.mono _ _)
   | (with_reducible exact waterhourlaw04_few.mono _ _ _)
   | (with_reducible exact waterhourref04_Valid.mono _ _)
   | (with_reducible exact LeO.refl _)
   | (with_reducible exact LeO.none _)
   | (with_reducible refine LeO.ite ?_ ?_)
   | (with_reducible refine LeO.bind ?_ (fun _ => ?_))
   | exact ih0 _ _ _ _ _ _
   | exact ih1 _ _ _ _ _ _ _ _ _ _ _ _ _
   | exact ih2 _ _ _ _ _ _ _ _
   | exact ih3 _ _ _ _ _ _ _ _ _
   | exact ih4 _ _ _ _ _ _
   | exact ih5 _ _ _ _ _ _ _
   | exact refill_CheckClash.mono _ _ _ _
   | exact refill_Clash.mono _ _
   | exact refill_Possible.mono _ _
   | exact waterhourlaw04_few.mono _ _ _
   | exact waterhourref04_Valid.mono _ _
   | exact LeO.none _
   | refine LeO.ite ?_ ?_
   | refine LeO.bind ?_ (fun _ => ?_)
  ·intro y0 y1 y2 y3 y4 y5 y6
   unfold waterhourlaw04_RefillAll.l1
   repeat' first
   | (with_reducible exact ih0 _ _ _ _ _ _)
   | (with_reducible exact ih1 _ _ _ _ _ _ _ _ _ _ _ _ _)
   | (with_reducible exact ih2 _ _ _ _ _ _ _ _)
   | (with_reducible exact ih3 _ _ _ _ _ _ _ _ _)
   | (with_reducible exact ih4 _ _ _ _ _ _)
   | (with_reducible exact ih5 _ _ _ _ _ _ _)
   | (with_reducible exact refill_CheckClash.mono _ _ _ _)
   | (with_reducible exact refill_Clash.mono _ _)
   | (with_reducible exact refill_Possible.mono _ _)
   | (with_reducible exact waterhourlaw04_few.mono _ _ _)
   | (with_reducible exact waterhourref04_Valid.mono _ _)
   | (with_reducible exact LeO.refl _)
   | (with_reducible exact LeO.none _)
   | (with_reducible refine LeO.ite ?_ ?_)
   | (with_reducible refine LeO.bind ?_ (fun _ => ?_))
   | exact ih0 _ _ _ _ _ _
   | exact ih1 _ _ _ _ _ _ _ _ _ _ _ _ _
   | exact ih2 _ _ _ _ _ _ _ _
   | exact ih3 _ _ _ _ _ _ _ _ _
   | exact ih4 _ _ _ _ _ _
   | exact ih5 _ _ _ _ _ _ _
   | exact refill_CheckClash.mono _ _ _ _
   | exact refill_Clash.mono _ _
   | exact refill_Possible.mono _ _
   | exact waterhourlaw04_few.mono _ _ _
   | exact waterhourref04_Valid.mono _ _
   | exact LeO.none _
   | refine LeO.ite ?_ ?_
   | refine LeO.bind ?_ (fun _ => ?_)
theorem waterhourlaw04_RefillAll.mono : ∀ a0 a1 a2 a3 a4 k, LeO (waterhourlaw04_RefillAll.f k a0 a1 a2 a3 a4) (waterhourlaw04_RefillAll.f (k + 1) a0 a1 a2 a3 a4) := by
 intro a0 a1 a2 a3 a4 k
 obtain ⟨ih0, ih1, ih2, ih3, ih4, ih5⟩ := waterhourlaw04_RefillAll.mono_l k
 unfold waterhourlaw04_RefillAll.f
 repeat' first
   | (with_reducible exact ih0 _ _ _ _ _ _)
   | (with_reducible exact ih1 _ _ _ _ _ _ _ _ _ _ _ _ _)
   | (with_reducible exact ih2 _ _ _ _ _ _ _ _)
   | (with_reducible exact ih3 _ _ _ _ _ _ _ _ _)
   | (with_reducible exact ih4 _ _ _ _ _ _)
   | (with_reducible exact ih5 _ _ _ _ _ _ _)
   | (with_reducible exact refill_CheckClash.mono _ _ _ _)
   | (with_reducible exact refill_Clash.mono _ _)
   | (with_reducible exact refill_Possible.mono _ _)
   | (with_reducible exact waterhourlaw04_few.mono _ _ _)
   | (with_reducible exact waterhourref04_Valid.mono _ _)
   | (with_reducible exact LeO.refl _)
   | (with_reducible exact LeO.none _)
   | (with_reducible refine LeO.ite ?_ ?_)
   | (with_reducible refine LeO.bind ?_ (fun _ => ?_))
   | exact ih0 _ _ _ _ _ _
   | exact ih1 _ _ _ _ _ _ _ _ _ _ _ _ _
   | exact ih2 _ _ _ _ _ _ _ _
   | exact ih3 _ _ _ _ _ _ _ _ _
   | exact ih4 _ _ _ _ _ _
   | exact ih5 _ _ _ _ _ _ _
   | exact refill_CheckClash.mono _ _ _ _
   | exact refill_Clash.mono _ _
   | exact refill_Possible.mono _ _
   | exact waterhourlaw04_few.mono _ _ _
   | exact waterhourref04_Valid.mono _ _
   | exact LeO.none _
   | refine LeO.ite ?_ ?_
   | refine LeO.bind ?_ (fun _ => ?_)
def waterhourlaw04_RefillAll.T19 : Bool × List (List Nat × List Nat) := (true, [([], []), ([0], [0]), ([1], [1]), ([2, 1], [1, 2]), ([1], [1]), ([4, 1], [1, 4]), ([3, 5, 1], [1, 3, 5]), ([6, 1, 1], [1, 6]), ([7], [7]), ([7], [7]), ([8, 9, 7], [7, 8, 9]), ([10, 7], [7, 10]), ([7], [7]), ([7], [7]), ([12, 13, 7], [7, 12, 13]), ([14, 7], [7, 14]), ([11, 15, 7], [7, 11, 15]), ([7, 16, 1], [1, 7, 16]), ([17, 7, 1], [1, 17]), ([18], [18]), ([18], [18]), ([19, 20, 18], [18, 19, 20]), ([21, 18], [18, 21]), ([18], [18]), ([18], [18]), ([23, 24, 18], [18, 23, 24]), ([25, 18], [18, 25]), ([22, 26, 18], [18, 22, 26]), ([18, 27, 1], [1, 18, 27]), ([1, 28], [1, 28])])
def waterhourlaw04_RefillAll.B19 : List Nat := [0, 1, 3, 7, 3, 19, 63, 127, 255, 255, 1023, 2047, 255, 255, 12543, 28927, 65535, 131071, 262143, 524287, 524287, 2097151, 4194303, 524287, 524287, 25690111, 59244543, 134217727, 268435455, 536870911]
theorem waterhourlaw04_RefillAll.tab19 : rtab .any (opsOf Tryd.f8 19) = waterhourlaw04_RefillAll.T19 := by kernel_rfl
theorem waterhourlaw04_RefillAll.bits19 : waitsOk waterhourlaw04_RefillAll.T19.2 waterhourlaw04_RefillAll.B19 = true := by kernel_rfl
def waterhourlaw04_RefillAll.T28 : Bool × List (List Nat × List Nat) := (true, [([], []), ([], []), ([], []), ([1, 2], [1, 2]), ([3], [3]), ([], []), ([], []), ([5, 6], [5, 6]), ([7], [7]), ([4, 8], [4, 8]), ([9], [9]), ([0, 10], [0, 10]), ([], []), ([], []), ([], []), ([13, 14], [13, 14]), ([15], [15]), ([], []), ([], []), ([17, 18], [17, 18]), ([19], [19]), ([16, 20], [16, 20]), ([21], [21]), ([12, 22, 11], [12, 22]), ([11, 23, 0, 1, 2, 3, 4, 5, 6, 7, 8, 9, 10, 11], [0, 11]), ([23, 24, 0, 1, 2, 3, 4, 5, 6, 7, 8, 9, 10, 11, 12, 13, 14, 15, 16, 17, 18, 19, 20, 21, 22, 23, 24], [12, 23])])
def waterhourlaw04_RefillAll.B28 : List Nat := [0, 0, 0, 6, 14, 0, 0, 96, 224, 510, 1022, 2047, 0, 0, 0, 24576, 57344, 0, 0, 393216, 917504, 2088960, 4186112, 8388607, 16777215, 33554431]
theorem waterhourlaw04_RefillAll.tab28 : rtab .any (opsOf Tryd.f8 28) = waterhourlaw04_RefillAll.T28 := by kernel_rfl
theorem waterhourlaw04_RefillAll.bits28 : waitsOk waterhourlaw04_RefillAll.T28.2 waterhourlaw04_RefillAll.B28 = true := by kernel_rfl
set_option maxHeartbeats 8000000 in
set_option maxRecDepth 100000 in
theorem waterhourlaw04_RefillAll.calls (k : Nat) (A0 : Option Addr) (c0 : Nat) (l0 : List (S51)) (P1_ : Nat → Prop) (A1 : Option Addr) (c1 : Nat) (l1 : List Int) (P2_ : Nat → Prop) (A2 : Option Addr) (c2 : Nat) (l2 : List Int) (a3 : Int) (a4 : Int) (r : Bool) (w : World) (hr0 : Kd.C k51 w A0 l0.length l0) (hc0 : l0.length ≤ c0) (hs1 : Kd.V (Kd.int .i64) 3 w w.heap.size (fun k_ => P1_ k_) (.slice A1 l1.length c1) l1) (hs2 : Kd.V (Kd.int .i64) 3 w w.heap.size (fun k_ => P2_ k_) (.slice A2 l2.length c2) l2) (ht : TabB w) (hrt : Aside0 (r = true)) (h : waterhourlaw04_RefillAll.f k l0 l1 l2 a3 a4 = some r) :
  Calls Tryd.prog 8 #[.slice A0 l0.length c0, .slice A1 l1.length c1, .slice A2 l2.length c2, .int .i64 a3, .int .i64 a4] w fun e w' => e = .returned (.bool r) ∧ Below w.heap.size w w' := by
 have HR0 := a_ hr0
 have HC0 := a_ hc0
 clear hr0 hc0
 have HO1 := a_ (show Kd.V (Kd.int .i64) 3 w w.heap.size (fun k_ => ((P1_ k_ ∨ P2_ k_) ∨ w.heap.size ≤ k_)) (.slice A1 l1.length c1) l1 from Kd.V_mono hs1 (fun k_ hk => .inl (.inl hk)))
 have HO2 := a_ (show Kd.V (Kd.int .i64) 3 w w.heap.size (fun k_ => ((P1_ k_ ∨ P2_ k_) ∨ w.heap.size ≤ k_)) (.slice A2 l2.length c2) l2 from Kd.V_mono hs2 (fun k_ hk => .inl (.inr hk)))
 have HT := a_ ht
 clear ht
 have HB := a_ (Below.refl w.heap.size w)
 have H : ((law_sane.f).bind fun t515 => (if t515 = true then ((waterhourref04_Valid.f k l0).bind fun t516 => (if t516 = true then ((waterhourlaw04_few.f k l0 (([l1, l2] : List (List Int)))).bind fun t520 => (waterhourlaw04_RefillAll.j0 k l0 l1 l2 a3 a4 (!t520))) else (waterhourlaw04_RefillAll.j0 k l0 l1 l2 a3 a4 true))) else (some false))) = some r := h
 clear h
 replace H := Option.bind_eq_some_iff.mp H
 obtain ⟨t515, A60, H⟩ := H
 replace H : (if t515 = true then ((waterhourref04_Valid.f k l0).bind fun t516 => (if t516 = true then ((waterhourlaw04_few.f k l0 (([l1, l2] : List (List Int)))).bind fun t520 => (waterhourlaw04_RefillAll.j0 k l0 l1 l2 a3 a4 (!t520))) else (waterhourlaw04_RefillAll.j0 k l0 l1 l2 a3 a4 true))) else (some false)) = some r := H
 have A6 := a_ A60
 clear A60
 by_cases c7 : t515 = true
 ·subst c7
  have H1 : ((waterhourref04_Valid.f k l0).bind fun t516 => (if t516 = true then ((waterhourlaw04_few.f k l0 (([l1, l2] : List (List Int)))).bind fun t520 => (waterhourlaw04_RefillAll.j0 k l0 l1 l2 a3 a4 (!t520))) else (waterhourlaw04_RefillAll.j0 k l0 l1 l2 a3 a4 true))) = some r := by rw [if_pos rfl] at H; exact H
  clear H
  have H := H1
  clear H1
  have HC8 := a_ H
  clear H
  go_enter Tryd.func8, Tryd.ntmps8
  go_upto_region 3 with (first | ((with_reducible refine gate_callee (f := 18) rfl ?_); refine goesL_ (some 27) rfl rfl Tryd.func18 (by kernel_rfl) rfl #[] rfl tm_ ?_; (with_reducible refine (law_sane.calls  true _ ?side1 A6.out).mono ?_); (case side1 => exact TabB.below HT.out bl_); rintro e w9 ⟨rfl, hb⟩; refine ⟨_, rfl, ?_⟩; have n0_ := a_ (Kd.V_below (vl_ HO1.out) hb); have n1_ := a_ (Kd.V_below (vl_ HO2.out) hb); have n2_ := a_ (below_step bl_ hb); clear HO1; clear HO2; clear HB; have HO1 := n0_; have HO2 := n1_; have HB := n2_; clear n0_ n1_ n2_; (try clear hb); (try clear hb2); (try clear hk); (try clear hi)))
  (try simp only [Act.put, List.setIfInBounds_toArray, List.set_cons_zero, List.set_cons_succ])
  go_cut [39] (fun v39 wc => ∃ (kq : Nat) (x39_7 : Bool), v39 = .bool x39_7 ∧ Aside0 (waterhourlaw04_RefillAll.j0 kq l0 l1 l2 a3 a4 x39_7 = some r) ∧ Aside0 (kq ≤ k) ∧ Aside0 (Kd.V (Kd.int .i64) 3 wc w.heap.size (fun k_ => ((P1_ k_ ∨ P2_ k_) ∨ w.heap.size ≤ k_)) (.slice A1 l1.length c1) l1) ∧ Aside0 (Kd.V (Kd.int .i64) 3 wc w.heap.size (fun k_ => ((P1_ k_ ∨ P2_ k_) ∨ w.heap.size ≤ k_)) (.slice A2 l2.length c2) l2) ∧ Aside0 (Below w.heap.size w wc))
  case first => as_aux_lemma =>
   have H := HC8.out
   clear HC8
   replace H := Option.bind_eq_some_iff.mp H
   obtain ⟨t516, A100, H⟩ := H
   replace H : (if t516 = true then ((waterhourlaw04_few.f k l0 (([l1, l2] : List (List Int)))).bind fun t520 => (waterhourlaw04_RefillAll.j0 k l0 l1 l2 a3 a4 (!t520))) else (waterhourlaw04_RefillAll.j0 k l0 l1 l2 a3 a4 true)) = some r := H
   have A10 := a_ A100
   clear A100
   by_cases c11 : t516 = true
   ·subst c11
    have H1 : ((waterhourlaw04_few.f k l0 (([l1, l2] : List (List Int)))).bind fun t520 => (waterhourlaw04_RefillAll.j0 k l0 l1 l2 a3 a4 (!t520))) = some r := by rw [if_pos rfl] at H; exact H
    clear H
    have H := H1
    clear H1
    obtain ⟨y517, hy517⟩ : ∃ y_ : List (List Int), y_ = (([l1, l2] : List (List Int))) := ⟨_, rfl⟩
    replace H : ((waterhourlaw04_few.f k l0 y517).bind fun t520 => (waterhourlaw04_RefillAll.j0 k l0 l1 l2 a3 a4 (!t520))) = some r := by first | (rw [hy517]; with_reducible exact H) | (have H2_ := (Option.bind_some _ _).symm.trans H; rw [hy517]; with_reducible exact H2_) | (have H2_ := (Option.bind_some _ _).symm.trans H; with_reducible exact H2_) | with_reducible exact H | (rw [hy517]; exact H) | exact H
    have Ny517 := a_ hy517
    clear hy517
    replace H := Option.bind_eq_some_iff.mp H
    obtain ⟨t520, A120, H⟩ := H
    replace H : (waterhourlaw04_RefillAll.j0 k l0 l1 l2 a3 a4 (!t520)) = some r := H
    have A12 := a_ A120
    clear A120
    have H' := a_ H
    clear H
    go_wp2_with (first | ((with_reducible refine gate_callee (f := 31) rfl ?_); refine goesL_ (some 30) rfl rfl Tryd.func31 (by kernel_rfl) rfl #[.slice A0 l0.length c0] rfl tm_ ?_; (with_reducible refine (waterhourref04_Valid.calls k _ _ l0 true _ ?side1 ?side2 A10.out).mono ?_); (case side1 => exact cl_ (Kd.C_below HR0.out HB.out)); (case side2 => exact HC0.out); rintro e w13 ⟨rfl, hb⟩; refine ⟨_, rfl, ?_⟩; have n0_ := a_ (Kd.V_below (vl_ HO1.out) hb); have n1_ := a_ (Kd.V_below (vl_ HO2.out) hb); have n2_ := a_ (below_step bl_ hb); clear HO1; clear HO2; clear HB; have HO1 := n0_; have HO2 := n1_; have HB := n2_; clear n0_ n1_ n2_; (try clear hb); (try clear hb2); (try clear hk); (try clear hi)) | ((with_reducible refine gate_dst (N := 36) rfl ?_); (try (refine gate_guard (by rfl) ?_; dsimp only)); refine Kd.N_lit (Kd.slice 3 (Kd.int .i64)) _ 26 ?hg (N' := 36) ?hd (xs := ([l1, l2] : List (List Int))) (inner := [.slice A1 l1.length c1, .slice A2 l2.length c2]) (ok := (fun k_ => ((P1_ k_ ∨ P2_ k_) ∨ w.heap.size ≤ k_))) (okp := (fun k_ => ((P1_ k_ ∨ P2_ k_) ∨ w.heap.size ≤ k_))) ?hr ?hp (fun _ hk => hk) ((show ∀ k_, w13.heap.size ≤ k_ → (fun k_ => ((P1_ k_ ∨ P2_ k_) ∨ w.heap.size ≤ k_)) k_ from fun k_ hk => (.inr (Nat.le_trans (below_size bl_) hk))) _ (Nat.le_refl _)) (Below.refl _ _) (Nat.le_refl _) (by simp) ?_; (case hd => rfl); (case hg => rfl); (case hr => first | (go_simp; done) | (go_simp; rfl)); (case hp => exact (Reps.one (show Kd.FK (Kd.slice 3 (Kd.int .i64)) _ _ l1 [.slice A1 l1.length c1] from (Kd.FK_slice_mk (Kd.V_reads' (Kd.V_mono (ok' := (fun k_ => ((P1_ k_ ∨ P2_ k_) ∨ w.heap.size ≤ k_))) (HO1.out) (fun k_ hk => hk))).2.1 (Kd.V_F (Kd.V_mono (ok' := (fun k_ => ((P1_ k_ ∨ P2_ k_) ∨ w.heap.size ≤ k_))) (HO1.out) (fun k_ hk => hk))))) (Reps.one (show Kd.FK (Kd.slice 3 (Kd.int .i64)) _ _ l2 [.slice A2 l2.length c2] from (Kd.FK_slice_mk (Kd.V_reads' (Kd.V_mono (ok' := (fun k_ => ((P1_ k_ ∨ P2_ k_) ∨ w.heap.size ≤ k_))) (HO2.out) (fun k_ hk => hk))).2.1 (Kd.V_F (Kd.V_mono (ok' := (fun k_ => ((P1_ k_ ∨ P2_ k_) ∨ w.heap.size ≤ k_))) (HO2.out) (fun k_ hk => hk))))) (Reps.none _ _)))); intro v518 w14 ho15 hb hg_ hnew_; clear hg_ hnew_; (first | rw [← Ny517.out] at ho15 | (simp only [Int.reduceToNat] at ho15; rw [← Ny517.out] at ho15)); have n0_ := a_ (Kd.V_elder' (vl_ HO1.out) (Kd.N_base ho15) hb); have n1_ := a_ (Kd.V_elder' (vl_ HO2.out) (Kd.N_base ho15) hb); have n2_ := a_ (Kd.N_lower ho15 (below_size bl_)); have n3_ := a_ (below_step bl_ hb); clear HO1; clear HO2; clear HB; have HO1 := n0_; have HO2 := n1_; have HO519 := n2_; have HB := n3_; clear n0_ n1_ n2_ n3_; clear hb ho15; obtain ⟨Ao16, co16, eo16⟩ := Kd.N_slice HO519.out; subst eo16) | (go_at_call 19; (with_reducible refine (waterhourlaw04_few.calls k _ _ l0 _ _ y517 t520 _ ?side1 ?side2 ?side3 ?side4 A12.out).mono ?_); (case side1 => exact cl_ (Kd.C_below HR0.out HB.out)); (case side2 => exact HC0.out); (case side3 => exact cl_ ((Kd.N_reads' HO519.out).2.2)); (case side4 => exact (Kd.N_reads' HO519.out).2.1); rintro e w' ⟨rfl, ⟨nd, rfl⟩⟩))
    go_meet
    case rel => exact ⟨_, (!t520), (by first | rfl | (simp; done) | (simp [*]; done)), H', ⟨by first | omega | exact Nat.le_refl _⟩, ⟨vl_ (Kd.V_mono HO1.out (fun _ hk => hk.1))⟩, ⟨vl_ (Kd.V_mono HO2.out (fun _ hk => hk.1))⟩, ⟨bl_⟩⟩
   ·replace c11 := Bool.eq_false_iff.mpr c11
    subst c11
    have H1 : (waterhourlaw04_RefillAll.j0 k l0 l1 l2 a3 a4 true) = some r := by rw [if_neg (show ¬ (false = true) by decide)] at H; exact H
    clear H
    have H := H1
    clear H1
    have H' := a_ H
    clear H
    go_wp2_with (first | ((with_reducible refine gate_callee (f := 31) rfl ?_); refine goesL_ (some 30) rfl rfl Tryd.func31 (by kernel_rfl) rfl #[.slice A0 l0.length c0] rfl tm_ ?_; (with_reducible refine (waterhourref04_Valid.calls k _ _ l0 false _ ?side1 ?side2 A10.out).mono ?_); (case side1 => exact cl_ (Kd.C_below HR0.out HB.out)); (case side2 => exact HC0.out); rintro e w17 ⟨rfl, hb⟩; refine ⟨_, rfl, ?_⟩; have n0_ := a_ (Kd.V_below (vl_ HO1.out) hb); have n1_ := a_ (Kd.V_below (vl_ HO2.out) hb); have n2_ := a_ (below_step bl_ hb); clear HO1; clear HO2; clear HB; have HO1 := n0_; have HO2 := n1_; have HB := n2_; clear n0_ n1_ n2_; (try clear hb); (try clear hb2); (try clear hk); (try clear hi)))
    go_meet
    case rel => exact ⟨_, (true), (by first | rfl | (simp; done) | (simp [*]; done)), H', ⟨by first | omega | exact Nat.le_refl _⟩, ⟨vl_ HO1.out⟩, ⟨vl_ HO2.out⟩, ⟨bl_⟩⟩
  case rest =>
   clear HC8
   try clear c1
   try clear c2
   try clear p2
   try clear c3
   try clear c7
   try clear c8
   try clear c11
   obtain ⟨kq, x39_7, rfl, HA, HJ7, HO_1, HO_2, HB⟩ := hcut
   cases kq with
   | zero => exact absurd HA.out (by simp [waterhourlaw04_RefillAll.j0])
   | succ kj7 =>
    have H := HA.out
    clear HA
    simp only [waterhourlaw04_RefillAll.j0] at H
    by_cases c18 : x39_7 = true
    ·subst c18
     have H1 : (some true) = some r := by rw [if_pos rfl] at H; exact H
     clear H
     have H := H1
     clear H1
     obtain rfl := Option.some.inj H
     go_wp2
     go_ret
     exact ⟨by first | rfl | (simp [errW_none, errW_some] <;> rfl) | (simp [*, errW_none, errW_some] <;> rfl), bl_⟩
    ·replace c18 := Bool.eq_false_iff.mpr c18
     subst c18
     have H1 : ((refill_Possible.f kj7 l0).bind fun bt521 => ((refill_Clash.f kj7 l0).bind fun bt523 => ((refill_Earliest.f l0).bind fun bt527 => ((refill_Latest.f l0).bind fun bt531 => (if bt521.2 = 0 then (if bt523.2.2.2 = 0 then (waterhourlaw04_RefillAll.j1 kj7 l0 l1 l2 a3 a4 bt521.1 bt523.1 bt523.2.1 bt527.1 bt527.2 bt531.1 bt531.2 (bt521.1 == bt523.2.2.1)) else (waterhourlaw04_RefillAll.j1 kj7 l0 l1 l2 a3 a4 bt521.1 bt523.1 bt523.2.1 bt527.1 bt527.2 bt531.1 bt531.2 true)) else (waterhourlaw04_RefillAll.j1 kj7 l0 l1 l2 a3 a4 bt521.1 bt523.1 bt523.2.1 bt527.1 bt527.2 bt531.1 bt531.2 true)))))) = some r := by rw [if_neg (show ¬ (false = true) by decide)] at H; exact H
     clear H
     have H := H1
     clear H1
     replace H := Option.bind_eq_some_iff.mp H
     obtain ⟨⟨t521, t522⟩, A190, H⟩ := H
     replace H : ((refill_Clash.f kj7 l0).bind fun bt523 => ((refill_Earliest.f l0).bind fun bt527 => ((refill_Latest.f l0).bind fun bt531 => (if t522 = 0 then (if bt523.2.2.2 = 0 then (waterhourlaw04_RefillAll.j1 kj7 l0 l1 l2 a3 a4 t521 bt523.1 bt523.2.1 bt527.1 bt527.2 bt531.1 bt531.2 (t521 == bt523.2.2.1)) else (waterhourlaw04_RefillAll.j1 kj7 l0 l1 l2 a3 a4 t521 bt523.1 bt523.2.1 bt527.1 bt527.2 bt531.1 bt531.2 true)) else (waterhourlaw04_RefillAll.j1 kj7 l0 l1 l2 a3 a4 t521 bt523.1 bt523.2.1 bt527.1 bt527.2 bt531.1 bt531.2 true))))) = some r := H
     have A19 := a_ A190
     clear A190
     replace H := Option.bind_eq_some_iff.mp H
     obtain ⟨⟨t523, t524, t525, t526⟩, A200, H⟩ := H
     replace H : ((refill_Earliest.f l0).bind fun bt527 => ((refill_Latest.f l0).bind fun bt531 => (if t522 = 0 then (if t526 = 0 then (waterhourlaw04_RefillAll.j1 kj7 l0 l1 l2 a3 a4 t521 t523 t524 bt527.1 bt527.2 bt531.1 bt531.2 (t521 == t525)) else (waterhourlaw04_RefillAll.j1 kj7 l0 l1 l2 a3 a4 t521 t523 t524 bt527.1 bt527.2 bt531.1 bt531.2 true)) else (waterhourlaw04_RefillAll.j1 kj7 l0 l1 l2 a3 a4 t521 t523 t524 bt527.1 bt527.2 bt531.1 bt531.2 true)))) = some r := H
     have A20 := a_ A200
     clear A200
     replace H := Option.bind_eq_some_iff.mp H
     obtain ⟨⟨t527, t528⟩, A210, H⟩ := H
     replace H : ((refill_Latest.f l0).bind fun bt531 => (if t522 = 0 then (if t526 = 0 then (waterhourlaw04_RefillAll.j1 kj7 l0 l1 l2 a3 a4 t521 t523 t524 t527 t528 bt531.1 bt531.2 (t521 == t525)) else (waterhourlaw04_RefillAll.j1 kj7 l0 l1 l2 a3 a4 t521 t523 t524 t527 t528 bt531.1 bt531.2 true)) else (waterhourlaw04_RefillAll.j1 kj7 l0 l1 l2 a3 a4 t521 t523 t524 t527 t528 bt531.1 bt531.2 true))) = some r := H
     have A21 := a_ A210
     clear A210
     replace H := Option.bind_eq_some_iff.mp H
     obtain ⟨⟨t531, t532⟩, A220, H⟩ := H
     replace H : (if t522 = 0 then (if t526 = 0 then (waterhourlaw04_RefillAll.j1 kj7 l0 l1 l2 a3 a4 t521 t523 t524 t527 t528 t531 t532 (t521 == t525)) else (waterhourlaw04_RefillAll.j1 kj7 l0 l1 l2 a3 a4 t521 t523 t524 t527 t528 t531 t532 true)) else (waterhourlaw04_RefillAll.j1 kj7 l0 l1 l2 a3 a4 t521 t523 t524 t527 t528 t531 t532 true)) = some r := H
     have A22 := a_ A220
     clear A220
     have HC23 := a_ H
     clear H
     go_upto_region 9 with (first | ((with_reducible refine gate_callee (f := 40) rfl ?_); refine goesL_ (some 42) rfl rfl Tryd.func40 (by kernel_rfl) rfl #[.slice A0 l0.length c0] rfl tm_ ?_; (with_reducible refine (refill_Possible.calls kj7 _ _ l0 t521 t522 _ ?side1 ?side2 A19.out).mono ?_); (case side1 => exact cl_ (Kd.C_below HR0.out HB.out)); (case side2 => exact HC0.out); rintro e w24 ⟨rfl, hb⟩; refine ⟨_, rfl, ?_⟩; have n0_ := a_ (Kd.V_below (vl_ HO_1.out) hb); have n1_ := a_ (Kd.V_below (vl_ HO_2.out) hb); have n2_ := a_ (below_step bl_ hb); clear HO_1; clear HO_2; clear HB; have HO_1 := n0_; have HO_2 := n1_; have HB := n2_; clear n0_ n1_ n2_; (try clear hb); (try clear hb2); (try clear hk); (try clear hi)) | ((with_reducible refine gate_callee (f := 23) rfl ?_); refine goesL_ (some 47) rfl rfl Tryd.func23 (by kernel_rfl) rfl #[.slice A0 l0.length c0] rfl tm_ ?_; (with_reducible refine (refill_Clash.calls kj7 _ _ l0 t523 t524 t525 t526 _ ?side1 ?side2 A20.out).mono ?_); (case side1 => exact cl_ (Kd.C_below HR0.out HB.out)); (case side2 => exact HC0.out); rintro e w25 ⟨rfl, hb⟩; refine ⟨_, rfl, ?_⟩; have n0_ := a_ (Kd.V_below (vl_ HO_1.out) hb); have n1_ := a_ (Kd.V_below (vl_ HO_2.out) hb); have n2_ := a_ (below_step bl_ hb); clear HO_1; clear HO_2; clear HB; have HO_1 := n0_; have HO_2 := n1_; have HB := n2_; clear n0_ n1_ n2_; (try clear hb); (try clear hb2); (try clear hk); (try clear hi)) | ((with_reducible refine gate_callee (f := 41) rfl ?_); refine goesL_ (some 54) rfl rfl Tryd.func41 (by kernel_rfl) rfl #[.slice A0 l0.length c0] rfl tm_ ?_; (with_reducible refine (refill_Earliest.calls _ _ l0 t527 t528 _ ?side1 ?side2 A21.out).mono ?_); (case side1 => exact cl_ (Kd.C_below HR0.out HB.out)); (case side2 => exact HC0.out); rintro e w26 ⟨v529, rfl, ho0, hb⟩; refine ⟨_, rfl, ?_⟩; have n0_ := a_ (Kd.V_elder' (vl_ HO_1.out) (Kd.R_base ho0) hb); have n1_ := a_ (Kd.V_elder' (vl_ HO_2.out) (Kd.R_base ho0) hb); have n2_ := a_ (Kd.R_lower (Kd.R_newM (M := fun k_ => (w.heap.size ≤ k_)) ho0 (below_size bl_) (fun k_ h_ => h_)) (below_size bl_)); have n3_ := a_ (below_step bl_ hb); clear HO_1; clear HO_2; clear HB; have HO_1 := n0_; have HO_2 := n1_; have HO530 := n2_; have HB := n3_; clear n0_ n1_ n2_ n3_; (try clear hb); (try clear hb2); (try clear hk); (try clear hi); (try clear ho0)) | ((with_reducible refine gate_callee (f := 42) rfl ?_); refine goesL_ (some 59) rfl rfl Tryd.func42 (by kernel_rfl) rfl #[.slice A0 l0.length c0] rfl tm_ ?_; (with_reducible refine (refill_Latest.calls _ _ l0 t531 t532 _ ?side1 ?side2 A22.out).mono ?_); (case side1 => exact cl_ (Kd.C_below HR0.out HB.out)); (case side2 => exact HC0.out); rintro e w27 ⟨v533, rfl, ho0, hb⟩; refine ⟨_, rfl, ?_⟩; have n0_ := a_ (Kd.V_elder' (vl_ HO_1.out) (Kd.R_base ho0) hb); have n1_ := a_ (Kd.V_elder' (vl_ HO_2.out) (Kd.R_base ho0) hb); have n2_ := a_ (Kd.R_elder' (rl_ HO530.out) (Kd.R_base ho0) hb); have n3_ := a_ (Kd.R_lower (Kd.R_new' (Kd.R_newM (M := fun k_ => (w.heap.size ≤ k_)) ho0 (below_size bl_) (fun k_ h_ => h_)) (Kd.R_lt (rl_ HO530.out))) (below_size bl_)); have n4_ := a_ (below_step bl_ hb); clear HO_1; clear HO_2; clear HO530; clear HB; have HO_1 := n0_; have HO_2 := n1_; have HO530 := n2_; have HO534 := n3_; have HB := n4_; clear n0_ n1_ n2_ n3_ n4_; (try clear hb); (try clear hb2); (try clear hk); (try clear hi); (try clear ho0)))
     (try simp only [Act.put, List.setIfInBounds_toArray, List.set_cons_zero, List.set_cons_succ])
     go_cut [72] (fun v72 wc => ∃ (kq : Nat) (x72_22 : Bool), v72 = .bool x72_22 ∧ Aside0 (waterhourlaw04_RefillAll.j1 kq l0 l1 l2 a3 a4 t521 t523 t524 t527 t528 t531 t532 x72_22 = some r) ∧ Aside0 (kq ≤ kj7) ∧ Aside0 (Kd.V (Kd.int .i64) 3 wc w.heap.size (fun k_ => ((P1_ k_ ∨ P2_ k_) ∨ w.heap.size ≤ k_) ∧ some k_ ≠ (v529 : Value).ownBlock ∧ some k_ ≠ (v533 : Value).ownBlock) (.slice A1 l1.length c1) l1) ∧ Aside0 (Kd.V (Kd.int .i64) 3 wc w.heap.size (fun k_ => ((P1_ k_ ∨ P2_ k_) ∨ w.heap.size ≤ k_) ∧ some k_ ≠ (v529 : Value).ownBlock ∧ some k_ ≠ (v533 : Value).ownBlock) (.slice A2 l2.length c2) l2) ∧ Aside0 (Kd.R (Kd.int .i64) 3 wc w.heap.size (fun k_ => (w.heap.size ≤ k_) ∧ some k_ ≠ (v533 : Value).ownBlock) v529 t527) ∧ Aside0 (Kd.R (Kd.int .i64) 3 wc w.heap.size (fun k_ => (w.heap.size ≤ k_) ∧ some k_ ≠ (v529 : Value).ownBlock) v533 t531) ∧ Aside0 (Below w.heap.size w wc))
     case first => as_aux_lemma =>
      have H := HC23.out
      clear HC23
      by_cases c28 : t522 = 0
      ·rw [if_pos c28] at H
       have c28b0 : (t522 == 0) = true := beq_iff_eq.mpr c28
       have c28b1 : (t522 != 0) = false := bne_eq_false_iff_eq.mpr c28
       clear c28
       (first | rw [c28b0] | (simp only [i64_w, i32_w]; rw [c28b0]) | skip)
       by_cases c29 : t526 = 0
       ·rw [if_pos c29] at H
        have c29b0 : (t526 == 0) = true := beq_iff_eq.mpr c29
        have c29b1 : (t526 != 0) = false := bne_eq_false_iff_eq.mpr c29
        clear c29
        have H' := a_ H
        clear H
        go_wp2
        go_meet
        case rel => exact ⟨_, ((t521 == t525)), (by first | rfl | (simp; done) | (simp [*]; done)), H', ⟨by have := HJ7.out; first | omega | exact Nat.le_refl _⟩, ⟨by (with_reducible repeat (first | apply Kd.V_alloc | apply Kd.V_drewN | apply Kd.V_drew)); exact Kd.V_mono HO_1.out (fun _ hk => ⟨hk.1.1, ⟨hk.1.2, hk.2⟩⟩)⟩, ⟨by (with_reducible repeat (first | apply Kd.V_alloc | apply Kd.V_drewN | apply Kd.V_drew)); exact Kd.V_mono HO_2.out (fun _ hk => ⟨hk.1.1, ⟨hk.1.2, hk.2⟩⟩)⟩, ⟨by (with_reducible repeat (first | apply Kd.R_alloc | apply Kd.R_drewN | apply Kd.R_drew)); exact Kd.R_mono HO530.out (fun _ hk => ⟨hk.1.1, hk.2⟩)⟩, ⟨by (with_reducible repeat (first | apply Kd.R_alloc | apply Kd.R_drewN | apply Kd.R_drew)); exact Kd.R_mono HO534.out (fun _ hk => ⟨hk.1.1, hk.2⟩)⟩, ⟨bl_⟩⟩
       ·rw [if_neg c29] at H
        have c29b0 : (t526 == 0) = false := beq_eq_false_iff_ne.mpr c29
        have c29b1 : (t526 != 0) = true := bne_iff_ne.mpr c29
        have H' := a_ H
        clear H
        go_wp2
        go_meet
        case rel => exact ⟨_, (true), (by first | rfl | (simp; done) | (simp [*]; done)), H', ⟨by have := HJ7.out; first | omega | exact Nat.le_refl _⟩, ⟨by (with_reducible repeat (first | apply Kd.V_alloc | apply Kd.V_drewN | apply Kd.V_drew)); exact Kd.V_mono HO_1.out (fun _ hk => ⟨hk.1.1, ⟨hk.1.2, hk.2⟩⟩)⟩, ⟨by (with_reducible repeat (first | apply Kd.V_alloc | apply Kd.V_drewN | apply Kd.V_drew)); exact Kd.V_mono HO_2.out (fun _ hk => ⟨hk.1.1, ⟨hk.1.2, hk.2⟩⟩)⟩, ⟨by (with_reducible repeat (first | apply Kd.R_alloc | apply Kd.R_drewN | apply Kd.R_drew)); exact Kd.R_mono HO530.out (fun _ hk => ⟨hk.1.1, hk.2⟩)⟩, ⟨by (with_reducible repeat (first | apply Kd.R_alloc | apply Kd.R_drewN | apply Kd.R_drew)); exact Kd.R_mono HO534.out (fun _ hk => ⟨hk.1.1, hk.2⟩)⟩, ⟨bl_⟩⟩
      ·rw [if_neg c28] at H
       have c28b0 : (t522 == 0) = false := beq_eq_false_iff_ne.mpr c28
       have c28b1 : (t522 != 0) = true := bne_iff_ne.mpr c28
       (first | rw [c28b0] | (simp only [i64_w, i32_w]; rw [c28b0]) | skip)
       have H' := a_ H
       clear H
       go_wp2
       go_meet
       case rel => exact ⟨_, (true), (by first | rfl | (simp; done) | (simp [*]; done)), H', ⟨by have := HJ7.out; first | omega | exact Nat.le_refl _⟩, ⟨by (with_reducible repeat (first | apply Kd.V_alloc | apply Kd.V_drewN | apply Kd.V_drew)); exact Kd.V_mono HO_1.out (fun _ hk => ⟨hk.1.1, ⟨hk.1.2, hk.2⟩⟩)⟩, ⟨by (with_reducible repeat (first | apply Kd.V_alloc | apply Kd.V_drewN | apply Kd.V_drew)); exact Kd.V_mono HO_2.out (fun _ hk => ⟨hk.1.1, ⟨hk.1.2, hk.2⟩⟩)⟩, ⟨by (with_reducible repeat (first | apply Kd.R_alloc | apply Kd.R_drewN | apply Kd.R_drew)); exact Kd.R_mono HO530.out (fun _ hk => ⟨hk.1.1, hk.2⟩)⟩, ⟨by (with_reducible repeat (first | apply Kd.R_alloc | apply Kd.R_drewN | apply Kd.R_drew)); exact Kd.R_mono HO534.out (fun _ hk => ⟨hk.1.1, hk.2⟩)⟩, ⟨bl_⟩⟩
     case rest =>
      clear HC23
      try clear c1
      try clear c2
      try clear p2
      try clear c3
      try clear c4
      try clear c7
      try clear c8
      try clear c11
      try clear c18
      try clear c23
      try clear c28
      try clear c28b0
      try clear c28b1
      try clear c29
      try clear c29b0
      try clear c29b1
      try clear p2
      obtain ⟨kq, x72_22, rfl, HA, HJ22, HO_1, HO_2, HO_17, HO_19, HB⟩ := hcut
      cases kq with
      | zero => exact absurd HA.out (by simp [waterhourlaw04_RefillAll.j1])
      | succ kj22 =>
       have H := HA.out
       clear HA
       simp only [waterhourlaw04_RefillAll.j1] at H
       by_cases c30 : x72_22 = true
       ·subst c30
        have H1 : (some false) = some r := by rw [if_pos rfl] at H; exact H
        clear H
        have H := H1
        clear H1
        exact absurd (H.trans (congrArg some hrt.out)) (by simp)
       ·replace c30 := Bool.eq_false_iff.mpr c30
        subst c30
        have H1 : ((refill_CheckTimes.f l0 l1).bind fun t535 => ((refill_CheckTimes.f l0 l2).bind fun t536 => (if t521 = true then (if t528 = 0 then (if t532 = 0 then ((refill_CheckTimes.f l0 t527).bind fun t538 => (if t538 = 0 then ((refill_CheckTimes.f l0 t531).bind fun t539 => (if t539 = 0 then (if (t527.length : Int) = (l0.length : Int) then (if (t531.length : Int) = (l0.length : Int) then ((refill_CheckClash.f kj22 l0 a3 a4).bind fun t540 => (waterhourlaw04_RefillAll.j2 kj22 l0 l1 l2 t527 t531 (t535 == 0) (t536 == 0) (t540 == 0))) else (waterhourlaw04_RefillAll.j2 kj22 l0 l1 l2 t527 t531 (t535 == 0) (t536 == 0) true)) else (waterhourlaw04_RefillAll.j2 kj22 l0 l1 l2 t527 t531 (t535 == 0) (t536 == 0) true)) else (waterhourlaw04_RefillAll.j2 kj22 l0 l1 l2 t527 t531 (t535 == 0) (t536 == 0) true))) else (waterhourlaw04_RefillAll.j2 kj22 l0 l1 l2 t527 t531 (t535 == 0) (t536 == 0) true))) else (waterhourlaw04_RefillAll.j2 kj22 l0 l1 l2 t527 t531 (t535 == 0) (t536 == 0) true)) else (waterhourlaw04_RefillAll.j2 kj22 l0 l1 l2 t527 t531 (t535 == 0) (t536 == 0) true)) else (if t528 = 31 then (if t532 = 31 then ((refill_CheckClash.f kj22 l0 t523 t524).bind fun t537 => (if t537 = 0 then (if t535 = 0 then (some false) else (some (!(t536 == 0)))) else (some false))) else (some false)) else (some false))))) = some r := by rw [if_neg (show ¬ (false = true) by decide)] at H; exact H
        clear H
        have H := H1
        clear H1
        replace H := Option.bind_eq_some_iff.mp H
        obtain ⟨t535, A310, H⟩ := H
        replace H : ((refill_CheckTimes.f l0 l2).bind fun t536 => (if t521 = true then (if t528 = 0 then (if t532 = 0 then ((refill_CheckTimes.f l0 t527).bind fun t538 => (if t538 = 0 then ((refill_CheckTimes.f l0 t531).bind fun t539 => (if t539 = 0 then (if (t527.length : Int) = (l0.length : Int) then (if (t531.length : Int) = (l0.length : Int) then ((refill_CheckClash.f kj22 l0 a3 a4).bind fun t540 => (waterhourlaw04_RefillAll.j2 kj22 l0 l1 l2 t527 t531 (t535 == 0) (t536 == 0) (t540 == 0))) else (waterhourlaw04_RefillAll.j2 kj22 l0 l1 l2 t527 t531 (t535 == 0) (t536 == 0) true)) else (waterhourlaw04_RefillAll.j2 kj22 l0 l1 l2 t527 t531 (t535 == 0) (t536 == 0) true)) else (waterhourlaw04_RefillAll.j2 kj22 l0 l1 l2 t527 t531 (t535 == 0) (t536 == 0) true))) else (waterhourlaw04_RefillAll.j2 kj22 l0 l1 l2 t527 t531 (t535 == 0) (t536 == 0) true))) else (waterhourlaw04_RefillAll.j2 kj22 l0 l1 l2 t527 t531 (t535 == 0) (t536 == 0) true)) else (waterhourlaw04_RefillAll.j2 kj22 l0 l1 l2 t527 t531 (t535 == 0) (t536 == 0) true)) else (if t528 = 31 then (if t532 = 31 then ((refill_CheckClash.f kj22 l0 t523 t524).bind fun t537 => (if t537 = 0 then (if t535 = 0 then (some false) else (some (!(t536 == 0)))) else (some false))) else (some false)) else (some false)))) = some r := H
        have A31 := a_ A310
        clear A310
        replace H := Option.bind_eq_some_iff.mp H
        obtain ⟨t536, A320, H⟩ := H
        replace H : (if t521 = true then (if t528 = 0 then (if t532 = 0 then ((refill_CheckTimes.f l0 t527).bind fun t538 => (if t538 = 0 then ((refill_CheckTimes.f l0 t531).bind fun t539 => (if t539 = 0 then (if (t527.length : Int) = (l0.length : Int) then (if (t531.length : Int) = (l0.length : Int) then ((refill_CheckClash.f kj22 l0 a3 a4).bind fun t540 => (waterhourlaw04_RefillAll.j2 kj22 l0 l1 l2 t527 t531 (t535 == 0) (t536 == 0) (t540 == 0))) else (waterhourlaw04_RefillAll.j2 kj22 l0 l1 l2 t527 t531 (t535 == 0) (t536 == 0) true)) else (waterhourlaw04_RefillAll.j2 kj22 l0 l1 l2 t527 t531 (t535 == 0) (t536 == 0) true)) else (waterhourlaw04_RefillAll.j2 kj22 l0 l1 l2 t527 t531 (t535 == 0) (t536 == 0) true))) else (waterhourlaw04_RefillAll.j2 kj22 l0 l1 l2 t527 t531 (t535 == 0) (t536 == 0) true))) else (waterhourlaw04_RefillAll.j2 kj22 l0 l1 l2 t527 t531 (t535 == 0) (t536 == 0) true)) else (waterhourlaw04_RefillAll.j2 kj22 l0 l1 l2 t527 t531 (t535 == 0) (t536 == 0) true)) else (if t528 = 31 then (if t532 = 31 then ((refill_CheckClash.f kj22 l0 t523 t524).bind fun t537 => (if t537 = 0 then (if t535 = 0 then (some false) else (some (!(t536 == 0)))) else (some false))) else (some false)) else (some false))) = some r := H
        have A32 := a_ A320
        clear A320
        by_cases c33 : t521 = true
        ·subst c33
         have H1 : (if t528 = 0 then (if t532 = 0 then ((refill_CheckTimes.f l0 t527).bind fun t538 => (if t538 = 0 then ((refill_CheckTimes.f l0 t531).bind fun t539 => (if t539 = 0 then (if (t527.length : Int) = (l0.length : Int) then (if (t531.length : Int) = (l0.length : Int) then ((refill_CheckClash.f kj22 l0 a3 a4).bind fun t540 => (waterhourlaw04_RefillAll.j2 kj22 l0 l1 l2 t527 t531 (t535 == 0) (t536 == 0) (t540 == 0))) else (waterhourlaw04_RefillAll.j2 kj22 l0 l1 l2 t527 t531 (t535 == 0) (t536 == 0) true)) else (waterhourlaw04_RefillAll.j2 kj22 l0 l1 l2 t527 t531 (t535 == 0) (t536 == 0) true)) else (waterhourlaw04_RefillAll.j2 kj22 l0 l1 l2 t527 t531 (t535 == 0) (t536 == 0) true))) else (waterhourlaw04_RefillAll.j2 kj22 l0 l1 l2 t527 t531 (t535 == 0) (t536 == 0) true))) else (waterhourlaw04_RefillAll.j2 kj22 l0 l1 l2 t527 t531 (t535 == 0) (t536 == 0) true)) else (waterhourlaw04_RefillAll.j2 kj22 l0 l1 l2 t527 t531 (t535 == 0) (t536 == 0) true)) = some r := by rw [if_pos rfl] at H; exact H
         clear H
         have H := H1
         clear H1
         have HC34 := a_ H
         clear H
         go_upto_region 14 with (first | ((with_reducible refine gate_callee (f := 33) rfl ?_); refine goesL_ (some 75) rfl rfl Tryd.func33 (by kernel_rfl) rfl #[.slice A0 l0.length c0, .slice A1 l1.length c1] rfl tm_ ?_; (with_reducible refine (refill_CheckTimes.calls _ _ l0 _ _ l1 t535 _ ?side1 ?side2 ?side3 ?side4 A31.out).mono ?_); (case side1 => exact cl_ (Kd.C_below HR0.out HB.out)); (case side2 => exact HC0.out); (case side3 => exact cl_ ((Kd.V_reads' HO_1.out).2.2)); (case side4 => exact (Kd.V_reads' HO_1.out).2.1); rintro e w35 ⟨rfl, hb⟩; refine ⟨_, rfl, ?_⟩; have n0_ := a_ (Kd.V_below (vl_ HO_1.out) hb); have n1_ := a_ (Kd.V_below (vl_ HO_2.out) hb); have n2_ := a_ (Kd.R_below (rl_ HO_17.out) hb); have n3_ := a_ (Kd.R_below (rl_ HO_19.out) hb); have n4_ := a_ (below_step bl_ hb); clear HO_1; clear HO_2; clear HO_17; clear HO_19; clear HB; have HO_1 := n0_; have HO_2 := n1_; have HO_17 := n2_; have HO_19 := n3_; have HB := n4_; clear n0_ n1_ n2_ n3_ n4_; (try clear hb); (try clear hb2); (try clear hk); (try clear hi)) | ((with_reducible refine gate_callee (f := 33) rfl ?_); refine goesL_ (some 79) rfl rfl Tryd.func33 (by kernel_rfl) rfl #[.slice A0 l0.length c0, .slice A2 l2.length c2] rfl tm_ ?_; (with_reducible refine (refill_CheckTimes.calls _ _ l0 _ _ l2 t536 _ ?side1 ?side2 ?side3 ?side4 A32.out).mono ?_); (case side1 => exact cl_ (Kd.C_below HR0.out HB.out)); (case side2 => exact HC0.out); (case side3 => exact cl_ ((Kd.V_reads' HO_2.out).2.2)); (case side4 => exact (Kd.V_reads' HO_2.out).2.1); rintro e w36 ⟨rfl, hb⟩; refine ⟨_, rfl, ?_⟩; have n0_ := a_ (Kd.V_below (vl_ HO_1.out) hb); have n1_ := a_ (Kd.V_below (vl_ HO_2.out) hb); have n2_ := a_ (Kd.R_below (rl_ HO_17.out) hb); have n3_ := a_ (Kd.R_below (rl_ HO_19.out) hb); have n4_ := a_ (below_step bl_ hb); clear HO_1; clear HO_2; clear HO_17; clear HO_19; clear HB; have HO_1 := n0_; have HO_2 := n1_; have HO_17 := n2_; have HO_19 := n3_; have HB := n4_; clear n0_ n1_ n2_ n3_ n4_; (try clear hb); (try clear hb2); (try clear hk); (try clear hi)))
         (try simp only [Act.put, List.setIfInBounds_toArray, List.set_cons_zero, List.set_cons_succ])
         go_cut [142] (fun v142 wc => ∃ (kq : Nat) (x142_33 : Bool), v142 = .bool x142_33 ∧ Aside0 (waterhourlaw04_RefillAll.j2 kq l0 l1 l2 t527 t531 (t535 == 0) (t536 == 0) x142_33 = some r) ∧ Aside0 (kq ≤ kj22) ∧ Aside0 (Kd.V (Kd.int .i64) 3 wc w.heap.size (fun k_ => ((P1_ k_ ∨ P2_ k_) ∨ w.heap.size ≤ k_) ∧ some k_ ≠ (v529 : Value).ownBlock ∧ some k_ ≠ (v533 : Value).ownBlock) (.slice A1 l1.length c1) l1) ∧ Aside0 (Kd.V (Kd.int .i64) 3 wc w.heap.size (fun k_ => ((P1_ k_ ∨ P2_ k_) ∨ w.heap.size ≤ k_) ∧ some k_ ≠ (v529 : Value).ownBlock ∧ some k_ ≠ (v533 : Value).ownBlock) (.slice A2 l2.length c2) l2) ∧ Aside0 (Kd.R (Kd.int .i64) 3 wc w.heap.size (fun k_ => (w.heap.size ≤ k_) ∧ some k_ ≠ (v533 : Value).ownBlock) v529 t527) ∧ Aside0 (Kd.R (Kd.int .i64) 3 wc w.heap.size (fun k_ => (w.heap.size ≤ k_) ∧ some k_ ≠ (v529 : Value).ownBlock) v533 t531) ∧ Aside0 (Below w.heap.size w wc))
         case first => as_aux_lemma =>
          have H := HC34.out
          clear HC34
          by_cases c37 : t528 = 0
          ·rw [if_pos c37] at H
           have c37b0 : (t528 == 0) = true := beq_iff_eq.mpr c37
           have c37b1 : (t528 != 0) = false := bne_eq_false_iff_eq.mpr c37
           clear c37
           (first | rw [c37b0] | (simp only [i64_w, i32_w]; rw [c37b0]) | skip)
           by_cases c38 : t532 = 0
           ·rw [if_pos c38] at H
            have c38b0 : (t532 == 0) = true := beq_iff_eq.mpr c38
            have c38b1 : (t532 != 0) = false := bne_eq_false_iff_eq.mpr c38
            clear c38
            replace H := Option.bind_eq_some_iff.mp H
            obtain ⟨t538, A390, H⟩ := H
            replace H : (if t538 = 0 then ((refill_CheckTimes.f l0 t531).bind fun t539 => (if t539 = 0 then (if (t527.length : Int) = (l0.length : Int) then (if (t531.length : Int) = (l0.length : Int) then ((refill_CheckClash.f kj22 l0 a3 a4).bind fun t540 => (waterhourlaw04_RefillAll.j2 kj22 l0 l1 l2 t527 t531 (t535 == 0) (t536 == 0) (t540 == 0))) else (waterhourlaw04_RefillAll.j2 kj22 l0 l1 l2 t527 t531 (t535 == 0) (t536 == 0) true)) else (waterhourlaw04_RefillAll.j2 kj22 l0 l1 l2 t527 t531 (t535 == 0) (t536 == 0) true)) else (waterhourlaw04_RefillAll.j2 kj22 l0 l1 l2 t527 t531 (t535 == 0) (t536 == 0) true))) else (waterhourlaw04_RefillAll.j2 kj22 l0 l1 l2 t527 t531 (t535 == 0) (t536 == 0) true)) = some r := H
            have A39 := a_ A390
            clear A390
            by_cases c40 : t538 = 0
            ·rw [if_pos c40] at H
             have c40b0 : (t538 == 0) = true := beq_iff_eq.mpr c40
             have c40b1 : (t538 != 0) = false := bne_eq_false_iff_eq.mpr c40
             clear c40
             replace H := Option.bind_eq_some_iff.mp H
             obtain ⟨t539, A410, H⟩ := H
             replace H : (if t539 = 0 then (if (t527.length : Int) = (l0.length : Int) then (if (t531.length : Int) = (l0.length : Int) then ((refill_CheckClash.f kj22 l0 a3 a4).bind fun t540 => (waterhourlaw04_RefillAll.j2 kj22 l0 l1 l2 t527 t531 (t535 == 0) (t536 == 0) (t540 == 0))) else (waterhourlaw04_RefillAll.j2 kj22 l0 l1 l2 t527 t531 (t535 == 0) (t536 == 0) true)) else (waterhourlaw04_RefillAll.j2 kj22 l0 l1 l2 t527 t531 (t535 == 0) (t536 == 0) true)) else (waterhourlaw04_RefillAll.j2 kj22 l0 l1 l2 t527 t531 (t535 == 0) (t536 == 0) true)) = some r := H
             have A41 := a_ A410
             clear A410
             by_cases c42 : t539 = 0
             ·rw [if_pos c42] at H
              have c42b0 : (t539 == 0) = true := beq_iff_eq.mpr c42
              have c42b1 : (t539 != 0) = false := bne_eq_false_iff_eq.mpr c42
              clear c42
              by_cases c43 : (t527.length : Int) = (l0.length : Int)
              ·rw [if_pos c43] at H
               have c43b0 : ((t527.length : Int) == (l0.length : Int)) = true := beq_iff_eq.mpr c43
               have c43b1 : ((t527.length : Int) != (l0.length : Int)) = false := bne_eq_false_iff_eq.mpr c43
               have c43b2 : (t527.length == l0.length) = true := by first | simpa using c43 | (simp at c43 ⊢; omega)
               clear c43
               by_cases c44 : (t531.length : Int) = (l0.length : Int)
               ·rw [if_pos c44] at H
                have c44b0 : ((t531.length : Int) == (l0.length : Int)) = true := beq_iff_eq.mpr c44
                have c44b1 : ((t531.length : Int) != (l0.length : Int)) = false := bne_eq_false_iff_eq.mpr c44
                have c44b2 : (t531.length == l0.length) = true := by first | simpa using c44 | (simp at c44 ⊢; omega)
                clear c44
                replace H := Option.bind_eq_some_iff.mp H
                obtain ⟨t540, A450, H⟩ := H
                replace H : (waterhourlaw04_RefillAll.j2 kj22 l0 l1 l2 t527 t531 (t535 == 0) (t536 == 0) (t540 == 0)) = some r := H
                have A45 := a_ A450
                clear A450
                have H' := a_ H
                clear H
                obtain ⟨Ao46, co46, eo46⟩ := Kd.R_slice HO_17.out
                subst eo46
                go_wp2_with (first | (go_at_call 33; (with_reducible refine (refill_CheckTimes.calls _ _ l0 _ _ t527 t538 _ ?side1 ?side2 ?side3 ?side4 A39.out).mono ?_); (case side1 => exact cl_ (Kd.C_below HR0.out HB.out)); (case side2 => exact HC0.out); (case side3 => exact cl_ ((Kd.R_reads' HO_17.out).2.2)); (case side4 => exact (Kd.R_reads' HO_17.out).2.1); rintro e w47 ⟨rfl, hb⟩; have n0_ := a_ (Kd.V_below (vl_ HO_1.out) hb); have n1_ := a_ (Kd.V_below (vl_ HO_2.out) hb); have n2_ := a_ (Kd.R_below (rl_ HO_17.out) hb); have n3_ := a_ (Kd.R_below (rl_ HO_19.out) hb); have n4_ := a_ (below_step bl_ hb); clear HO_1; clear HO_2; clear HO_17; clear HO_19; clear HB; have HO_1 := n0_; have HO_2 := n1_; have HO_17 := n2_; have HO_19 := n3_; have HB := n4_; clear n0_ n1_ n2_ n3_ n4_; (try clear hb); (try clear hb2); (try clear hk); (try clear hi); obtain ⟨Ao48, co48, eo48⟩ := Kd.R_slice HO_19.out; subst eo48) | (go_at_call 33; (with_reducible refine (refill_CheckTimes.calls _ _ l0 _ _ t531 t539 _ ?side1 ?side2 ?side3 ?side4 A41.out).mono ?_); (case side1 => exact cl_ (Kd.C_below HR0.out HB.out)); (case side2 => exact HC0.out); (case side3 => exact cl_ ((Kd.R_reads' HO_19.out).2.2)); (case side4 => exact (Kd.R_reads' HO_19.out).2.1); rintro e w49 ⟨rfl, hb⟩; have n0_ := a_ (Kd.V_below (vl_ HO_1.out) hb); have n1_ := a_ (Kd.V_below (vl_ HO_2.out) hb); have n2_ := a_ (Kd.R_below (rl_ HO_17.out) hb); have n3_ := a_ (Kd.R_below (rl_ HO_19.out) hb); have n4_ := a_ (below_step bl_ hb); clear HO_1; clear HO_2; clear HO_17; clear HO_19; clear HB; have HO_1 := n0_; have HO_2 := n1_; have HO_17 := n2_; have HO_19 := n3_; have HB := n4_; clear n0_ n1_ n2_ n3_ n4_; (try clear hb); (try clear hb2); (try clear hk); (try clear hi)) | (go_at_call 25; (with_reducible refine (refill_CheckClash.calls kj22 _ _ l0 a3 a4 t540 _ ?side1 ?side2 A45.out).mono ?_); (case side1 => exact cl_ (Kd.C_below HR0.out HB.out)); (case side2 => exact HC0.out); rintro e w50 ⟨rfl, hb⟩; have n0_ := a_ (Kd.V_below (vl_ HO_1.out) hb); have n1_ := a_ (Kd.V_below (vl_ HO_2.out) hb); have n2_ := a_ (Kd.R_below (rl_ HO_17.out) hb); have n3_ := a_ (Kd.R_below (rl_ HO_19.out) hb); have n4_ := a_ (below_step bl_ hb); clear HO_1; clear HO_2; clear HO_17; clear HO_19; clear HB; have HO_1 := n0_; have HO_2 := n1_; have HO_17 := n2_; have HO_19 := n3_; have HB := n4_; clear n0_ n1_ n2_ n3_ n4_; (try clear hb); (try clear hb2); (try clear hk); (try clear hi)))
                go_meet
                case rel => exact ⟨_, ((t540 == 0)), (by first | rfl | (simp; done) | (simp [*]; done)), H', ⟨by have := HJ7.out; have := HJ22.out; first | omega | exact Nat.le_refl _⟩, ⟨vl_ HO_1.out⟩, ⟨vl_ HO_2.out⟩, ⟨rl_ HO_17.out⟩, ⟨rl_ HO_19.out⟩, ⟨bl_⟩⟩
               ·rw [if_neg c44] at H
                have c44b0 : ((t531.length : Int) == (l0.length : Int)) = false := beq_eq_false_iff_ne.mpr c44
                have c44b1 : ((t531.length : Int) != (l0.length : Int)) = true := bne_iff_ne.mpr c44
                have c44b2 : (t531.length == l0.length) = false := by first | simpa using c44 | (simp at c44 ⊢; omega)
                have H' := a_ H
                clear H
                obtain ⟨Ao51, co51, eo51⟩ := Kd.R_slice HO_17.out
                subst eo51
                go_wp2_with (first | (go_at_call 33; (with_reducible refine (refill_CheckTimes.calls _ _ l0 _ _ t527 t538 _ ?side1 ?side2 ?side3 ?side4 A39.out).mono ?_); (case side1 => exact cl_ (Kd.C_below HR0.out HB.out)); (case side2 => exact HC0.out); (case side3 => exact cl_ ((Kd.R_reads' HO_17.out).2.2)); (case side4 => exact (Kd.R_reads' HO_17.out).2.1); rintro e w52 ⟨rfl, hb⟩; have n0_ := a_ (Kd.V_below (vl_ HO_1.out) hb); have n1_ := a_ (Kd.V_below (vl_ HO_2.out) hb); have n2_ := a_ (Kd.R_below (rl_ HO_17.out) hb); have n3_ := a_ (Kd.R_below (rl_ HO_19.out) hb); have n4_ := a_ (below_step bl_ hb); clear HO_1; clear HO_2; clear HO_17; clear HO_19; clear HB; have HO_1 := n0_; have HO_2 := n1_; have HO_17 := n2_; have HO_19 := n3_; have HB := n4_; clear n0_ n1_ n2_ n3_ n4_; (try clear hb); (try clear hb2); (try clear hk); (try clear hi); obtain ⟨Ao53, co53, eo53⟩ := Kd.R_slice HO_19.out; subst eo53) | (go_at_call 33; (with_reducible refine (refill_CheckTimes.calls _ _ l0 _ _ t531 t539 _ ?side1 ?side2 ?side3 ?side4 A41.out).mono ?_); (case side1 => exact cl_ (Kd.C_below HR0.out HB.out)); (case side2 => exact HC0.out); (case side3 => exact cl_ ((Kd.R_reads' HO_19.out).2.2)); (case side4 => exact (Kd.R_reads' HO_19.out).2.1); rintro e w54 ⟨rfl, hb⟩; have n0_ := a_ (Kd.V_below (vl_ HO_1.out) hb); have n1_ := a_ (Kd.V_below (vl_ HO_2.out) hb); have n2_ := a_ (Kd.R_below (rl_ HO_17.out) hb); have n3_ := a_ (Kd.R_below (rl_ HO_19.out) hb); have n4_ := a_ (below_step bl_ hb); clear HO_1; clear HO_2; clear HO_17; clear HO_19; clear HB; have HO_1 := n0_; have HO_2 := n1_; have HO_17 := n2_; have HO_19 := n3_; have HB := n4_; clear n0_ n1_ n2_ n3_ n4_; (try clear hb); (try clear hb2); (try clear hk); (try clear hi)))
                go_meet
                case rel => exact ⟨_, (true), (by first | rfl | (simp; done) | (simp [*]; done)), H', ⟨by have := HJ7.out; have := HJ22.out; first | omega | exact Nat.le_refl _⟩, ⟨vl_ HO_1.out⟩, ⟨vl_ HO_2.out⟩, ⟨rl_ HO_17.out⟩, ⟨rl_ HO_19.out⟩, ⟨bl_⟩⟩
              ·rw [if_neg c43] at H
               have c43b0 : ((t527.length : Int) == (l0.length : Int)) = false := beq_eq_false_iff_ne.mpr c43
               have c43b1 : ((t527.length : Int) != (l0.length : Int)) = true := bne_iff_ne.mpr c43
               have c43b2 : (t527.length == l0.length) = false := by first | simpa using c43 | (simp at c43 ⊢; omega)
               have H' := a_ H
               clear H
               obtain ⟨Ao55, co55, eo55⟩ := Kd.R_slice HO_17.out
               subst eo55
               go_wp2_with (first | (go_at_call 33; (with_reducible refine (refill_CheckTimes.calls _ _ l0 _ _ t527 t538 _ ?side1 ?side2 ?side3 ?side4 A39.out).mono ?_); (case side1 => exact cl_ (Kd.C_below HR0.out HB.out)); (case side2 => exact HC0.out); (case side3 => exact cl_ ((Kd.R_reads' HO_17.out).2.2)); (case side4 => exact (Kd.R_reads' HO_17.out).2.1); rintro e w56 ⟨rfl, hb⟩; have n0_ := a_ (Kd.V_below (vl_ HO_1.out) hb); have n1_ := a_ (Kd.V_below (vl_ HO_2.out) hb); have n2_ := a_ (Kd.R_below (rl_ HO_17.out) hb); have n3_ := a_ (Kd.R_below (rl_ HO_19.out) hb); have n4_ := a_ (below_step bl_ hb); clear HO_1; clear HO_2; clear HO_17; clear HO_19; clear HB; have HO_1 := n0_; have HO_2 := n1_; have HO_17 := n2_; have HO_19 := n3_; have HB := n4_; clear n0_ n1_ n2_ n3_ n4_; (try clear hb); (try clear hb2); (try clear hk); (try clear hi); obtain ⟨Ao57, co57, eo57⟩ := Kd.R_slice HO_19.out; subst eo57) | (go_at_call 33; (with_reducible refine (refill_CheckTimes.calls _ _ l0 _ _ t531 t539 _ ?side1 ?side2 ?side3 ?side4 A41.out).mono ?_); (case side1 => exact cl_ (Kd.C_below HR0.out HB.out)); (case side2 => exact HC0.out); (case side3 => exact cl_ ((Kd.R_reads' HO_19.out).2.2)); (case side4 => exact (Kd.R_reads' HO_19.out).2.1); rintro e w58 ⟨rfl, hb⟩; have n0_ := a_ (Kd.V_below (vl_ HO_1.out) hb); have n1_ := a_ (Kd.V_below (vl_ HO_2.out) hb); have n2_ := a_ (Kd.R_below (rl_ HO_17.out) hb); have n3_ := a_ (Kd.R_below (rl_ HO_19.out) hb); have n4_ := a_ (below_step bl_ hb); clear HO_1; clear HO_2; clear HO_17; clear HO_19; clear HB; have HO_1 := n0_; have HO_2 := n1_; have HO_17 := n2_; have HO_19 := n3_; have HB := n4_; clear n0_ n1_ n2_ n3_ n4_; (try clear hb); (try clear hb2); (try clear hk); (try clear hi)))
               go_meet
               case rel => exact ⟨_, (true), (by first | rfl | (simp; done) | (simp [*]; done)), H', ⟨by have := HJ7.out; have := HJ22.out; first | omega | exact Nat.le_refl _⟩, ⟨vl_ HO_1.out⟩, ⟨vl_ HO_2.out⟩, ⟨rl_ HO_17.out⟩, ⟨rl_ HO_19.out⟩, ⟨bl_⟩⟩
             ·rw [if_neg c42] at H
              have c42b0 : (t539 == 0) = false := beq_eq_false_iff_ne.mpr c42
              have c42b1 : (t539 != 0) = true := bne_iff_ne.mpr c42
              have H' := a_ H
              clear H
              obtain ⟨Ao59, co59, eo59⟩ := Kd.R_slice HO_17.out
              subst eo59
              go_wp2_with (first | (go_at_call 33; (with_reducible refine (refill_CheckTimes.calls _ _ l0 _ _ t527 t538 _ ?side1 ?side2 ?side3 ?side4 A39.out).mono ?_); (case side1 => exact cl_ (Kd.C_below HR0.out HB.out)); (case side2 => exact HC0.out); (case side3 => exact cl_ ((Kd.R_reads' HO_17.out).2.2)); (case side4 => exact (Kd.R_reads' HO_17.out).2.1); rintro e w60 ⟨rfl, hb⟩; have n0_ := a_ (Kd.V_below (vl_ HO_1.out) hb); have n1_ := a_ (Kd.V_below (vl_ HO_2.out) hb); have n2_ := a_ (Kd.R_below (rl_ HO_17.out) hb); have n3_ := a_ (Kd.R_below (rl_ HO_19.out) hb); have n4_ := a_ (below_step bl_ hb); clear HO_1; clear HO_2; clear HO_17; clear HO_19; clear HB; have HO_1 := n0_; have HO_2 := n1_; have HO_17 := n2_; have HO_19 := n3_; have HB := n4_; clear n0_ n1_ n2_ n3_ n4_; (try clear hb); (try clear hb2); (try clear hk); (try clear hi); obtain ⟨Ao61, co61, eo61⟩ := Kd.R_slice HO_19.out; subst eo61) | (go_at_call 33; (with_reducible refine (refill_CheckTimes.calls _ _ l0 _ _ t531 t539 _ ?side1 ?side2 ?side3 ?side4 A41.out).mono ?_); (case side1 => exact cl_ (Kd.C_below HR0.out HB.out)); (case side2 => exact HC0.out); (case side3 => exact cl_ ((Kd.R_reads' HO_19.out).2.2)); (case side4 => exact (Kd.R_reads' HO_19.out).2.1); rintro e w62 ⟨rfl, hb⟩; have n0_ := a_ (Kd.V_below (vl_ HO_1.out) hb); have n1_ := a_ (Kd.V_below (vl_ HO_2.out) hb); have n2_ := a_ (Kd.R_below (rl_ HO_17.out) hb); have n3_ := a_ (Kd.R_below (rl_ HO_19.out) hb); have n4_ := a_ (below_step bl_ hb); clear HO_1; clear HO_2; clear HO_17; clear HO_19; clear HB; have HO_1 := n0_; have HO_2 := n1_; have HO_17 := n2_; have HO_19 := n3_; have HB := n4_; clear n0_ n1_ n2_ n3_ n4_; (try clear hb); (try clear hb2); (try clear hk); (try clear hi)))
              go_meet
              case rel => exact ⟨_, (true), (by first | rfl | (simp; done) | (simp [*]; done)), H', ⟨by have := HJ7.out; have := HJ22.out; first | omega | exact Nat.le_refl _⟩, ⟨vl_ HO_1.out⟩, ⟨vl_ HO_2.out⟩, ⟨rl_ HO_17.out⟩, ⟨rl_ HO_19.out⟩, ⟨bl_⟩⟩
            ·rw [if_neg c40] at H
             have c40b0 : (t538 == 0) = false := beq_eq_false_iff_ne.mpr c40
             have c40b1 : (t538 != 0) = true := bne_iff_ne.mpr c40
             have H' := a_ H
             clear H
             obtain ⟨Ao63, co63, eo63⟩ := Kd.R_slice HO_17.out
             subst eo63
             go_wp2_with (first | (go_at_call 33; (with_reducible refine (refill_CheckTimes.calls _ _ l0 _ _ t527 t538 _ ?side1 ?side2 ?side3 ?side4 A39.out).mono ?_); (case side1 => exact cl_ (Kd.C_below HR0.out HB.out)); (case side2 => exact HC0.out); (case side3 => exact cl_ ((Kd.R_reads' HO_17.out).2.2)); (case side4 => exact (Kd.R_reads' HO_17.out).2.1); rintro e w64 ⟨rfl, hb⟩; have n0_ := a_ (Kd.V_below (vl_ HO_1.out) hb); have n1_ := a_ (Kd.V_below (vl_ HO_2.out) hb); have n2_ := a_ (Kd.R_below (rl_ HO_17.out) hb); have n3_ := a_ (Kd.R_below (rl_ HO_19.out) hb); have n4_ := a_ (below_step bl_ hb); clear HO_1; clear HO_2; clear HO_17; clear HO_19; clear HB; have HO_1 := n0_; have HO_2 := n1_; have HO_17 := n2_; have HO_19 := n3_; have HB := n4_; clear n0_ n1_ n2_ n3_ n4_; (try clear hb); (try clear hb2); (try clear hk); (try clear hi)))
             go_meet
             case rel => exact ⟨_, (true), (by first | rfl | (simp; done) | (simp [*]; done)), H', ⟨by have := HJ7.out; have := HJ22.out; first | omega | exact Nat.le_refl _⟩, ⟨vl_ HO_1.out⟩, ⟨vl_ HO_2.out⟩, ⟨rl_ HO_17.out⟩, ⟨rl_ HO_19.out⟩, ⟨bl_⟩⟩
           ·rw [if_neg c38] at H
            have c38b0 : (t532 == 0) = false := beq_eq_false_iff_ne.mpr c38
            have c38b1 : (t532 != 0) = true := bne_iff_ne.mpr c38
            have H' := a_ H
            clear H
            go_wp2
            go_meet
            case rel => exact ⟨_, (true), (by first | rfl | (simp; done) | (simp [*]; done)), H', ⟨by have := HJ7.out; have := HJ22.out; first | omega | exact Nat.le_refl _⟩, ⟨vl_ HO_1.out⟩, ⟨vl_ HO_2.out⟩, ⟨rl_ HO_17.out⟩, ⟨rl_ HO_19.out⟩, ⟨bl_⟩⟩
          ·rw [if_neg c37] at H
           have c37b0 : (t528 == 0) = false := beq_eq_false_iff_ne.mpr c37
           have c37b1 : (t528 != 0) = true := bne_iff_ne.mpr c37
           (first | rw [c37b0] | (simp only [i64_w, i32_w]; rw [c37b0]) | skip)
           have H' := a_ H
           clear H
           go_wp2
           go_meet
           case rel => exact ⟨_, (true), (by first | rfl | (simp; done) | (simp [*]; done)), H', ⟨by have := HJ7.out; have := HJ22.out; first | omega | exact Nat.le_refl _⟩, ⟨vl_ HO_1.out⟩, ⟨vl_ HO_2.out⟩, ⟨rl_ HO_17.out⟩, ⟨rl_ HO_19.out⟩, ⟨bl_⟩⟩
         case rest =>
          clear HC34
          try clear c1
          try clear c2
          try clear p2
          try clear c3
          try clear c4
          try clear c7
          try clear c8
          try clear c11
          try clear c18
          try clear c23
          try clear c28
          try clear c28b0
          try clear c28b1
          try clear c29
          try clear c29b0
          try clear c29b1
          try clear c30
          try clear c31
          try clear c33
          try clear c37
          try clear c37b0
          try clear c37b1
          try clear c38
          try clear c38b0
          try clear c38b1
          try clear c40
          try clear c40b0
          try clear c40b1
          try clear c41
          try clear c42
          try clear c42b0
          try clear c42b1
          try clear c43
          try clear c43b0
          try clear c43b1
          try clear c43b2
          try clear c44
          try clear c44b0
          try clear c44b1
          try clear c44b2
          try clear p2
          obtain ⟨kq, x142_33, rfl, HA, HJ33, HO_1, HO_2, HO_17, HO_19, HB⟩ := hcut
          obtain ⟨b21, hb21⟩ : ∃ b_ : Bool, b_ = (t535 == 0) := ⟨_, rfl⟩
          obtain ⟨b22, hb22⟩ : ∃ b_ : Bool, b_ = (t536 == 0) := ⟨_, rfl⟩
          rw [← hb21, ← hb22] at HA ⊢
          clear hb21 hb22
          cases kq with
          | zero => exact absurd HA.out (by simp [waterhourlaw04_RefillAll.j2])
          | succ kj33 =>
           have H := HA.out
           clear HA
           simp only [waterhourlaw04_RefillAll.j2] at H
           by_cases c65 : x142_33 = true
           ·subst c65
            have H1 : (some false) = some r := by rw [if_pos rfl] at H; exact H
            clear H
            have H := H1
            clear H1
            exact absurd (H.trans (congrArg some hrt.out)) (by simp)
           ·replace c65 := Bool.eq_false_iff.mpr c65
            subst c65
            have H1 : (waterhourlaw04_RefillAll.l0 kj33 l0 l1 l2 t527 t531 b21 b22 (l0.length : Int) 0) = some r := by rw [if_neg (show ¬ (false = true) by decide)] at H; exact H
            clear H
            have H := H1
            clear H1
            have H' := a_ H
            clear H
            go_wp2
            go_loopg [145] kj33 (fun kq v145 w' => ∃ (x145_4 : Int), v145 = .int .i64 x145_4 ∧ Aside0 (waterhourlaw04_RefillAll.l0 kq l0 l1 l2 t527 t531 b21 b22 (l0.length : Int) x145_4 = some r) ∧ Aside0 (kq ≤ kj33) ∧ Aside0 (Kd.V (Kd.int .i64) 3 w' w.heap.size (fun k_ => ((P1_ k_ ∨ P2_ k_) ∨ w.heap.size ≤ k_) ∧ some k_ ≠ (v529 : Value).ownBlock ∧ some k_ ≠ (v533 : Value).ownBlock) (.slice A1 l1.length c1) l1) ∧ Aside0 (Kd.V (Kd.int .i64) 3 w' w.heap.size (fun k_ => ((P1_ k_ ∨ P2_ k_) ∨ w.heap.size ≤ k_) ∧ some k_ ≠ (v529 : Value).ownBlock ∧ some k_ ≠ (v533 : Value).ownBlock) (.slice A2 l2.length c2) l2) ∧ Aside0 (Kd.R (Kd.int .i64) 3 w' w.heap.size (fun k_ => (w.heap.size ≤ k_) ∧ some k_ ≠ (v533 : Value).ownBlock) v529 t527) ∧ Aside0 (Kd.R (Kd.int .i64) 3 w' w.heap.size (fun k_ => (w.heap.size ≤ k_) ∧ some k_ ≠ (v529 : Value).ownBlock) v533 t531) ∧ Aside0 (Below w.heap.size w w'))
            case atStart => exact ⟨(0), (by first | rfl | (simp; done) | (simp [*]; done)), H', ⟨Nat.le_refl _⟩, ⟨vl_ HO_1.out⟩, ⟨vl_ HO_2.out⟩, ⟨rl_ HO_17.out⟩, ⟨rl_ HO_19.out⟩, ⟨bl_⟩⟩
            case round => as_aux_lemma =>
             clear H'
             try clear c1
             try clear c2
             try clear p2
             try clear c3
             try clear c4
             try clear c6
             try clear c7
             try clear c8
             try clear c11
             try clear c18
             try clear c23
             try clear c28
             try clear c28b0
             try clear c28b1
             try clear c29
             try clear c29b0
             try clear c29b1
             try clear c30
             try clear c31
             try clear c33
             try clear c37
             try clear c37b0
             try clear c37b1
             try clear c38
             try clear c38b0
             try clear c38b1
             try clear c40
             try clear c40b0
             try clear c40b1
             try clear c41
             try clear c42
             try clear c42b0
             try clear c42b1
             try clear c43
             try clear c43b0
             try clear c43b1
             try clear c43b2
             try clear c44
             try clear c44b0
             try clear c44b1
             try clear c44b2
             try clear c65
             try clear p2
             obtain ⟨x145_4, rfl, HA, HK4, HO_1, HO_2, HO_17, HO_19, HB⟩ := hrel
             cases gk with
             | zero => exact absurd HA.out (by simp [waterhourlaw04_RefillAll.l0])
             | succ k4 =>
              have H := HA.out
              clear HA
              simp only [waterhourlaw04_RefillAll.l0] at H
              by_cases c66 : x145_4 < (l0.length : Int)
              ·rw [if_pos c66] at H
               have c66b0 : decide (x145_4 < (l0.length : Int)) = true := decide_eq_true c66
               clear c66
               by_cases c67 : b21 = true
               ·rw [if_pos c67] at H
                subst c67
                by_cases c68 : (l1.length : Int) = (l0.length : Int)
                ·rw [if_pos c68] at H
                 have c68b0 : ((l1.length : Int) == (l0.length : Int)) = true := beq_iff_eq.mpr c68
                 have c68b1 : ((l1.length : Int) != (l0.length : Int)) = false := bne_eq_false_iff_eq.mpr c68
                 have c68b2 : (l1.length == l0.length) = true := by first | simpa using c68 | (simp at c68 ⊢; omega)
                 clear c68
                 by_cases c69 : 0 ≤ x145_4
                 ·rw [if_pos c69] at H
                  have c69b0 : decide (0 ≤ x145_4) = true := decide_eq_true c69
                  clear c69
                  by_cases c70 : x145_4 < (l1.length : Int)
                  ·rw [if_pos c70] at H
                   have c70b0 : decide (x145_4 < (l1.length : Int)) = true := decide_eq_true c70
                   clear c70
                   by_cases c71 : x145_4 < (t527.length : Int)
                   ·rw [if_pos c71] at H
                    have c71b0 : decide (x145_4 < (t527.length : Int)) = true := decide_eq_true c71
                    clear c71
                    by_cases c72 : (rd l1 x145_4) < (rd t527 x145_4)
                    ·rw [if_pos c72] at H
                     have c72b0 : decide ((rd l1 x145_4) < (rd t527 x145_4)) = true := decide_eq_true c72
                     clear c72
                     exact absurd (H.trans (congrArg some hrt.out)) (by simp)
                    ·rw [if_neg c72] at H
                     have c72b0 : decide ((rd l1 x145_4) < (rd t527 x145_4)) = false := decide_eq_false c72
                     clear c72
                     by_cases c73 : x145_4 < (t531.length : Int)
                     ·rw [if_pos c73] at H
                      have c73b0 : decide (x145_4 < (t531.length : Int)) = true := decide_eq_true c73
                      clear c73
                      by_cases c74 : (rd l1 x145_4) > (rd t531 x145_4)
                      ·rw [if_pos c74] at H
                       have c74b0 : decide ((rd t531 x145_4) < (rd l1 x145_4)) = true := decide_eq_true c74
                       clear c74
                       exact absurd (H.trans (congrArg some hrt.out)) (by simp)
                      ·rw [if_neg c74] at H
                       have c74b0 : decide ((rd t531 x145_4) < (rd l1 x145_4)) = false := decide_eq_false c74
                       clear c74
                       have H' := a_ H
                       clear H
                       try go_wp2
                       have n0_ := a_ (Kd.V_drew HO_1.out)
                       have n1_ := a_ (Kd.V_drew HO_2.out)
                       have n2_ := a_ (Kd.R_drew HO_17.out)
                       have n3_ := a_ (Kd.R_drew HO_19.out)
                       have n4_ := a_ (below_drew1 HB.out)
                       clear HO_1
                       clear HO_2
                       clear HO_17
                       clear HO_19
                       clear HB
                       have HO_1 := n0_
                       have HO_2 := n1_
                       have HO_17 := n2_
                       have HO_19 := n3_
                       have HB := n4_
                       clear n0_ n1_ n2_ n3_ n4_
                       have p541 : 0 ≤ (x145_4 : Int) := of_decide_eq_true (by first | (with_reducible assumption) | assumption)
                       have q541 : x145_4 < (l1.length : Int) := of_decide_eq_true (by first | (with_reducible assumption) | assumption)
                       obtain ⟨ad541, e541, hx541_0⟩ := Kd.at_int (Kd.V_reads' HO_1.out).2.2 x145_4 p541 q541
                       cases e541
                       replace p541 := eq_true p541
                       replace q541 := eq_true q541
                       obtain ⟨Ao76, co76, eo76⟩ := Kd.R_slice HO_17.out
                       (first | subst eo76 | (injection eo76 with f1_ f2_ f3_; have f4_ := f1_.symm; have f5_ := f3_.symm; clear f1_ f2_ f3_; subst f4_; subst f5_))
                       have p542 : 0 ≤ (x145_4 : Int) := of_decide_eq_true (by first | (with_reducible assumption) | assumption)
                       have q542 : x145_4 < (t527.length : Int) := of_decide_eq_true (by first | (with_reducible assumption) | assumption)
                       obtain ⟨ad542, e542, hx542_0⟩ := Kd.at_int (Kd.R_reads' HO_17.out).2.2 x145_4 p542 q542
                       cases e542
                       replace p542 := eq_true p542
                       replace q542 := eq_true q542
                       have p543 : 0 ≤ (x145_4 : Int) := of_decide_eq_true (by first | (with_reducible assumption) | assumption)
                       have q543 : x145_4 < (l1.length : Int) := of_decide_eq_true (by first | (with_reducible assumption) | assumption)
                       obtain ⟨ad543, e543, hx543_0⟩ := Kd.at_int (Kd.V_reads' HO_1.out).2.2 x145_4 p543 q543
                       obtain rfl : ad541 = ad543 := (by injection e543)
                       replace p543 := eq_true p543
                       replace q543 := eq_true q543
                       obtain ⟨Ao77, co77, eo77⟩ := Kd.R_slice HO_19.out
                       (first | subst eo77 | (injection eo77 with f1_ f2_ f3_; have f4_ := f1_.symm; have f5_ := f3_.symm; clear f1_ f2_ f3_; subst f4_; subst f5_))
                       have p544 : 0 ≤ (x145_4 : Int) := of_decide_eq_true (by first | (with_reducible assumption) | assumption)
                       have q544 : x145_4 < (t531.length : Int) := of_decide_eq_true (by first | (with_reducible assumption) | assumption)
                       obtain ⟨ad544, e544, hx544_0⟩ := Kd.at_int (Kd.R_reads' HO_19.out).2.2 x145_4 p544 q544
                       cases e544
                       replace p544 := eq_true p544
                       replace q544 := eq_true q544
                       refine start_ (n := 30) (S := fun w' => w'.cell? (ad541.add (x145_4).toNat) = some (.int .i64 (rd l1 x145_4)) ∧ w'.cell? (ad542.add (x145_4).toNat) = some (.int .i64 (rd t527 x145_4)) ∧ w'.cell? (ad541.add (x145_4).toNat) = some (.int .i64 (rd l1 x145_4)) ∧ w'.cell? (ad544.add (x145_4).toNat) = some (.int .i64 (rd t531 x145_4))) (ds := []) #[false, false, false, false, false, false, false, false, false, false, false, false, false, false, false, false, false, false, false, false, false, false, false, false, false, false, false, false, false, false] (by kernel_rfl) rfl rfl ⟨hx541_0, hx542_0, hx543_0, hx544_0⟩ (fun hHeld => ?_); refine with_tabW waterhourlaw04_RefillAll.tab19 waterhourlaw04_RefillAll.bits19 (fun HT_ HW_ => ?_)
                       generalize wr.drew = w75 at HO_1 HO_2 HO_17 HO_19 HB hx541_0 hx542_0 hx543_0 hx544_0 hHeld ⊢
                       refine pz_ 0 148 HT_ ?_
                       refine pz_ 1 149 HT_ ?_
                       refine pz_ 2 150 HT_ ?_
                       refine pz_ 3 151 HT_ ?_
                       refine pz_ 4 152 HT_ ?_
                       refine pz_ 5 153 HT_ ?_
                       refine pz_ 6 154 HT_ ?_
                       refine pz_ 7 155 HT_ ?_
                       refine pz_ 8 156 HT_ ?_
                       refine pz_ 9 157 HT_ ?_
                       refine pz_ 10 158 HT_ ?_
                       refine pz_ 12 160 HT_ ?_
                       refine pz_ 13 161 HT_ ?_
                       refine pz_ 14 162 HT_ ?_
                       refine take_ (i := 11) (N := some 159) (v := ?_) (a' := ?_) #[true, true, true, true, true, true, true, true, true, true, true, true, true, true, true, false, false, false, false, false, false, false, false, false, false, false, false, false, false, false] rfl rfl (take_ofW HT_.out HW_.out (by kernel_rfl)) (fun _ _ _ h => h) (Or.inl ⟨by rfl, ?_⟩) hHeld ?_ ?_
                       rotate_left
                       ·rintro w' ⟨s0, s1, s2, s3⟩
                        go_simp
                        with_reducible rfl
                       rotate_left
                       ·simp only [Act.put, List.setIfInBounds_toArray, List.set_cons_zero, List.set_cons_succ, i64_w, i32_w]
                        rfl
                       refine take_ (i := 15) (N := some 163) (v := ?_) (a' := ?_) #[true, true, true, true, true, true, true, true, true, true, true, true, true, true, true, true, false, false, false, false, false, false, false, false, false, false, false, false, false, false] rfl rfl (take_ofW HT_.out HW_.out (by kernel_rfl)) (fun _ _ _ h => h) (Or.inl ⟨by rfl, ?_⟩) hHeld ?_ ?_
                       rotate_left
                       ·rintro w' ⟨s0, s1, s2, s3⟩
                        go_simp
                        with_reducible rfl
                       rotate_left
                       ·simp only [Act.put, List.setIfInBounds_toArray, List.set_cons_zero, List.set_cons_succ, i64_w, i32_w]
                        rfl
                       refine pz_ 16 164 HT_ ?_
                       refine pz_ 17 165 HT_ ?_
                       refine pz_ 18 166 HT_ ?_
                       refine pz_ 19 167 HT_ ?_
                       refine pz_ 20 168 HT_ ?_
                       refine pz_ 21 169 HT_ ?_
                       refine pz_ 23 171 HT_ ?_
                       refine pz_ 24 172 HT_ ?_
                       refine pz_ 25 173 HT_ ?_
                       refine take_ (i := 22) (N := some 170) (v := ?_) (a' := ?_) #[true, true, true, true, true, true, true, true, true, true, true, true, true, true, true, true, true, true, true, true, true, true, true, true, true, true, false, false, false, false] rfl rfl (take_ofW HT_.out HW_.out (by kernel_rfl)) (fun _ _ _ h => h) (Or.inl ⟨by rfl, ?_⟩) hHeld ?_ ?_
                       rotate_left
                       ·rintro w' ⟨s0, s1, s2, s3⟩
                        go_simp
                        with_reducible rfl
                       rotate_left
                       ·simp only [Act.put, List.setIfInBounds_toArray, List.set_cons_zero, List.set_cons_succ, i64_w, i32_w]
                        rfl
                       refine take_ (i := 26) (N := some 174) (v := ?_) (a' := ?_) #[true, true, true, true, true, true, true, true, true, true, true, true, true, true, true, true, true, true, true, true, true, true, true, true, true, true, true, false, false, false] rfl rfl (take_ofW HT_.out HW_.out (by kernel_rfl)) (fun _ _ _ h => h) (Or.inl ⟨by rfl, ?_⟩) hHeld ?_ ?_
                       rotate_left
                       ·rintro w' ⟨s0, s1, s2, s3⟩
                        go_simp
                        with_reducible rfl
                       rotate_left
                       ·simp only [Act.put, List.setIfInBounds_toArray, List.set_cons_zero, List.set_cons_succ, i64_w, i32_w]
                        rfl
                       refine pz_ 27 175 HT_ ?_
                       refine pz_ 28 176 HT_ ?_
                       refine pz_ 29 177 HT_ ?_
                       refine done_ (done_of HT_.out (by kernel_rfl)) ?_
                       try go_wp2
                       go_roundg k4
                       case measure => have := HJ7.out; have := HJ22.out; have := HJ33.out; have := HK4.out; omega
                       case rel => exact ⟨(wrap64 (x145_4 + 1)), (by first | rfl | (simp; done) | (simp [*]; done)), H', ⟨by have := HJ7.out; have := HJ22.out; have := HJ33.out; have := HK4.out; omega⟩, ⟨vl_ HO_1.out⟩, ⟨vl_ HO_2.out⟩, ⟨rl_ HO_17.out⟩, ⟨rl_ HO_19.out⟩, ⟨bl_⟩⟩
                     ·rw [if_neg c73] at H
                      exact absurd H (by simp)
                   ·rw [if_neg c71] at H
                    exact absurd H (by simp)
                  ·rw [if_neg c70] at H
                   exact absurd H (by simp)
                 ·rw [if_neg c69] at H
                  exact absurd H (by simp)
                ·rw [if_neg c68] at H
                 have c68b0 : ((l1.length : Int) == (l0.length : Int)) = false := beq_eq_false_iff_ne.mpr c68
                 have c68b1 : ((l1.length : Int) != (l0.length : Int)) = true := bne_iff_ne.mpr c68
                 have c68b2 : (l1.length == l0.length) = false := by first | simpa using c68 | (simp at c68 ⊢; omega)
                 exact absurd (H.trans (congrArg some hrt.out)) (by simp)
               ·rw [if_neg c67] at H
                replace c67 : b21 = false := by simpa using c67
                subst c67
                have H' := a_ H
                clear H
                try go_wp2
                have n0_ := a_ (Kd.V_drew HO_1.out)
                have n1_ := a_ (Kd.V_drew HO_2.out)
                have n2_ := a_ (Kd.R_drew HO_17.out)
                have n3_ := a_ (Kd.R_drew HO_19.out)
                have n4_ := a_ (below_drew1 HB.out)
                clear HO_1
                clear HO_2
                clear HO_17
                clear HO_19
                clear HB
                have HO_1 := n0_
                have HO_2 := n1_
                have HO_17 := n2_
                have HO_19 := n3_
                have HB := n4_
                clear n0_ n1_ n2_ n3_ n4_
                refine start_ (n := 30) (S := fun w' => True) (ds := []) #[false, false, false, false, false, false, false, false, false, false, false, false, false, false, false, false, false, false, false, false, false, false, false, false, false, false, false, false, false, false] (by kernel_rfl) rfl rfl trivial (fun hHeld => ?_); refine with_tabW waterhourlaw04_RefillAll.tab19 waterhourlaw04_RefillAll.bits19 (fun HT_ HW_ => ?_)
                generalize wr.drew = w78 at HO_1 HO_2 HO_17 HO_19 HB hHeld ⊢
                refine pz_ 0 148 HT_ ?_
                refine pz_ 1 149 HT_ ?_
                refine pu_ 2 150 HT_ ?_
                refine pu_ 3 151 HT_ ?_
                refine pu_ 4 152 HT_ ?_
                refine pu_ 5 153 HT_ ?_
                refine pu_ 6 154 HT_ ?_
                refine pu_ 7 155 HT_ ?_
                refine pu_ 8 156 HT_ ?_
                refine pu_ 9 157 HT_ ?_
                refine pu_ 10 158 HT_ ?_
                refine pu_ 11 159 HT_ ?_
                refine pu_ 12 160 HT_ ?_
                refine pu_ 13 161 HT_ ?_
                refine pu_ 14 162 HT_ ?_
                refine pu_ 15 163 HT_ ?_
                refine pu_ 16 164 HT_ ?_
                refine pu_ 17 165 HT_ ?_
                refine pu_ 18 166 HT_ ?_
                refine pu_ 19 167 HT_ ?_
                refine pu_ 20 168 HT_ ?_
                refine pu_ 21 169 HT_ ?_
                refine pu_ 22 170 HT_ ?_
                refine pu_ 23 171 HT_ ?_
                refine pu_ 24 172 HT_ ?_
                refine pu_ 25 173 HT_ ?_
                refine pu_ 26 174 HT_ ?_
                refine pu_ 27 175 HT_ ?_
                refine pu_ 28 176 HT_ ?_
                refine pz_ 29 177 HT_ ?_
                refine done_ (done_of HT_.out (by kernel_rfl)) ?_
                try go_wp2
                go_roundg k4
                case measure => have := HJ7.out; have := HJ22.out; have := HJ33.out; have := HK4.out; omega
                case rel => exact ⟨(wrap64 (x145_4 + 1)), (by first | rfl | (simp; done) | (simp [*]; done)), H', ⟨by have := HJ7.out; have := HJ22.out; have := HJ33.out; have := HK4.out; omega⟩, ⟨vl_ HO_1.out⟩, ⟨vl_ HO_2.out⟩, ⟨rl_ HO_17.out⟩, ⟨rl_ HO_19.out⟩, ⟨bl_⟩⟩
              ·rw [if_neg c66] at H
               have c66b0 : decide (x145_4 < (l0.length : Int)) = false := decide_eq_false c66
               clear c66
               have HC79 := a_ H
               clear H
               go_upto_region 22 with (fail)
               go_cut [191] (fun v191 wc => ∃ (kq : Nat) (x191_78 : Bool), v191 = .bool x191_78 ∧ Aside0 (waterhourlaw04_RefillAll.j4 kq l0 l1 l2 b21 b22 x191_78 = some r) ∧ Aside0 (kq ≤ k4) ∧ Aside0 (Kd.V (Kd.int .i64) 3 wc w.heap.size (fun k_ => ((P1_ k_ ∨ P2_ k_) ∨ w.heap.size ≤ k_)) (.slice A1 l1.length c1) l1) ∧ Aside0 (Kd.V (Kd.int .i64) 3 wc w.heap.size (fun k_ => ((P1_ k_ ∨ P2_ k_) ∨ w.heap.size ≤ k_)) (.slice A2 l2.length c2) l2) ∧ Aside0 (Below w.heap.size w wc))
               case first => as_aux_lemma =>
                have H := HC79.out
                clear HC79
                by_cases c80 : b21 = true
                ·rw [if_pos c80] at H
                 subst c80
                 by_cases c81 : b22 = true
                 ·rw [if_pos c81] at H
                  subst c81
                  have H' := a_ H
                  clear H
                  go_wp2
                  go_meet
                  case rel => exact ⟨_, (((l2.length : Int) != (l1.length : Int))), (by first | rfl | (simp; done) | (simp [*]; done)), H', ⟨by have := HJ7.out; have := HJ22.out; have := HJ33.out; have := HK4.out; first | omega | exact Nat.le_refl _⟩, ⟨vl_ (Kd.V_mono HO_1.out (fun _ hk => hk.1))⟩, ⟨vl_ (Kd.V_mono HO_2.out (fun _ hk => hk.1))⟩, ⟨bl_⟩⟩
                 ·rw [if_neg c81] at H
                  replace c81 : b22 = false := by simpa using c81
                  subst c81
                  have H' := a_ H
                  clear H
                  go_wp2
                  go_meet
                  case rel => exact ⟨_, (true), (by first | rfl | (simp; done) | (simp [*]; done)), H', ⟨by have := HJ7.out; have := HJ22.out; have := HJ33.out; have := HK4.out; first | omega | exact Nat.le_refl _⟩, ⟨vl_ (Kd.V_mono HO_1.out (fun _ hk => hk.1))⟩, ⟨vl_ (Kd.V_mono HO_2.out (fun _ hk => hk.1))⟩, ⟨bl_⟩⟩
                ·rw [if_neg c80] at H
                 replace c80 : b21 = false := by simpa using c80
                 subst c80
                 have H' := a_ H
                 clear H
                 go_wp2
                 go_meet
                 case rel => exact ⟨_, (true), (by first | rfl | (simp; done) | (simp [*]; done)), H', ⟨by have := HJ7.out; have := HJ22.out; have := HJ33.out; have := HK4.out; first | omega | exact Nat.le_refl _⟩, ⟨vl_ (Kd.V_mono HO_1.out (fun _ hk => hk.1))⟩, ⟨vl_ (Kd.V_mono HO_2.out (fun _ hk => hk.1))⟩, ⟨bl_⟩⟩
               case rest =>
                clear HC79
                try clear c1
                try clear c2
                try clear p2
                try clear c3
                try clear c4
                try clear p5
                try clear q5
                try clear hx5
                try clear c6
                try clear p6
                try clear c7
                try clear c8
                try clear c37
                try clear c37b1
                try clear c38
                try clear c38b0
                try clear c38b1
                try clear c40
                try clear c40b0
                try clear c40b1
                try clear c41
                try clear c42
                try clear c42b0
                try clear c42b1
                try clear c43
                try clear c43b0
                try clear c43b1
                try clear c43b2
                try clear c44
                try clear c44b0
                try clear c44b1
                try clear c44b2
                try clear p54
                try clear q54
                try clear hx54
                try clear p64
                try clear c65
                try clear c66
                try clear c66b0
                try clear c67
                try clear c67b0
                try clear c67b1
                try clear c67b2
                try clear c68
                try clear c68b0
                try clear c68b1
                try clear c68b2
                try clear c69
                try clear c69b0
                try clear c70
                try clear c70b0
                try clear c71
                try clear c71b0
                try clear c72
                try clear c72b0
                try clear c73
                try clear c73b0
                try clear c74
                try clear c74b0
                try clear c80
                try clear c80b0
                try clear c80b1
                try clear c80b2
                try clear c81
                try clear c81b0
                try clear c81b1
                try clear c81b2
                try clear hx541_0
                try clear hx542_0
                try clear hx543_0
                try clear hx544_0
                try clear p2
                try clear p541
                try clear p542
                try clear p543
                try clear p544
                try clear q541
                try clear q542
                try clear q543
                try clear q544
                obtain ⟨kq, x191_78, rfl, HA, HJ78, HO_1, HO_2, HB⟩ := hcut
                cases kq with
                | zero => exact absurd HA.out (by simp [waterhourlaw04_RefillAll.j4])
                | succ kj78 =>
                 have H := HA.out
                 clear HA
                 simp only [waterhourlaw04_RefillAll.j4] at H
                 by_cases c82 : x191_78 = true
                 ·subst c82
                  have H1 : (if b21 = true then (some (!b22)) else (some true)) = some r := by rw [if_pos rfl] at H; exact H
                  clear H
                  have H := H1
                  clear H1
                  by_cases c83 : b21 = true
                  ·rw [if_pos c83] at H
                   subst c83
                   obtain rfl := Option.some.inj H
                   go_wp2
                   go_ret
                   exact ⟨by first | rfl | (simp [errW_none, errW_some] <;> rfl) | (simp [*, errW_none, errW_some] <;> rfl), bl_⟩
                  ·rw [if_neg c83] at H
                   replace c83 : b21 = false := by simpa using c83
                   subst c83
                   obtain rfl := Option.some.inj H
                   go_wp2
                   go_ret
                   exact ⟨by first | rfl | (simp [errW_none, errW_some] <;> rfl) | (simp [*, errW_none, errW_some] <;> rfl), bl_⟩
                 ·replace c82 := Bool.eq_false_iff.mpr c82
                  subst c82
                  have H1 : (waterhourlaw04_RefillAll.l1 kj78 l0 l1 l2 ([] : List Int) ([] : List Int) (l1.length : Int) 0) = some r := by rw [if_neg (show ¬ (false = true) by decide)] at H; exact H
                  clear H
                  have H := H1
                  clear H1
                  have H' := a_ H
                  clear H
                  go_wp2
                  go_loopg [24, 25, 200] kj78 (fun kq v24 v25 v200 w' => ∃ (x24_6 : List Int) (x25_6 : List Int) (x200_6 : Int), v200 = .int .i64 x200_6 ∧ Aside0 (waterhourlaw04_RefillAll.l1 kq l0 l1 l2 x24_6 x25_6 (l1.length : Int) x200_6 = some r) ∧ Aside0 (kq ≤ kj78) ∧ Aside0 (Kd.V (Kd.int .i64) 3 w' w.heap.size (fun k_ => ((P1_ k_ ∨ P2_ k_) ∨ w.heap.size ≤ k_) ∧ some k_ ≠ (v24 : Value).ownBlock ∧ some k_ ≠ (v25 : Value).ownBlock) (.slice A1 l1.length c1) l1) ∧ Aside0 (Kd.V (Kd.int .i64) 3 w' w.heap.size (fun k_ => ((P1_ k_ ∨ P2_ k_) ∨ w.heap.size ≤ k_) ∧ some k_ ≠ (v24 : Value).ownBlock ∧ some k_ ≠ (v25 : Value).ownBlock) (.slice A2 l2.length c2) l2) ∧ Aside0 (Kd.R (Kd.int .i64) 3 w' w.heap.size (fun k_ => (w.heap.size ≤ k_) ∧ some k_ ≠ (v25 : Value).ownBlock) v24 x24_6) ∧ Aside0 (Kd.R (Kd.int .i64) 3 w' w.heap.size (fun k_ => (w.heap.size ≤ k_) ∧ some k_ ≠ (v24 : Value).ownBlock) v25 x25_6) ∧ Aside0 (Below w.heap.size w w'))
                  case atStart => exact ⟨(([] : List Int)), (([] : List Int)), (0), (by first | rfl | (simp; done) | (simp [*]; done)), H', ⟨Nat.le_refl _⟩, ⟨by (with_reducible repeat (first | apply Kd.V_alloc | apply Kd.V_drewN | apply Kd.V_drew)); exact Kd.V_mono HO_1.out (fun _ hk => ⟨hk, ⟨(by simp [Value.ownBlock]), (by simp [Value.ownBlock])⟩⟩)⟩, ⟨by (with_reducible repeat (first | apply Kd.V_alloc | apply Kd.V_drewN | apply Kd.V_drew)); exact Kd.V_mono HO_2.out (fun _ hk => ⟨hk, ⟨(by simp [Value.ownBlock]), (by simp [Value.ownBlock])⟩⟩)⟩, ⟨by first | exact Kd.R_nil _ _ _ _ _ | exact Kd.N_nil _ _ _ _ _ | exact Kd.V_nil _ _ _ _ _ | exact Kd.Q_nil _ _ _ _ _ | exact Kd.S_nil _ _ _ _ _⟩, ⟨by first | exact Kd.R_nil _ _ _ _ _ | exact Kd.N_nil _ _ _ _ _ | exact Kd.V_nil _ _ _ _ _ | exact Kd.Q_nil _ _ _ _ _ | exact Kd.S_nil _ _ _ _ _⟩, ⟨bl_⟩⟩
                  case round => as_aux_lemma =>
                   clear H'
                   try clear c1
                   try clear c2
                   try clear p2
                   try clear c3
                   try clear c4
                   try clear p5
                   try clear q5
                   try clear hx5
                   try clear c6
                   try clear p6
                   try clear c7
                   try clear c8
                   try clear c37
                   try clear c37b1
                   try clear c38
                   try clear c38b0
                   try clear c38b1
                   try clear c40
                   try clear c40b0
                   try clear c40b1
                   try clear c41
                   try clear c42
                   try clear c42b0
                   try clear c42b1
                   try clear c43
                   try clear c43b0
                   try clear c43b1
                   try clear c43b2
                   try clear c44
                   try clear c44b0
                   try clear c44b1
                   try clear c44b2
                   try clear p54
                   try clear q54
                   try clear hx54
                   try clear p64
                   try clear c65
                   try clear c66
                   try clear c66b0
                   try clear c67
                   try clear c67b0
                   try clear c67b1
                   try clear c67b2
                   try clear c68
                   try clear c68b0
                   try clear c68b1
                   try clear c68b2
                   try clear c69
                   try clear c69b0
                   try clear c70
                   try clear c70b0
                   try clear c71
                   try clear c71b0
                   try clear c72
                   try clear c72b0
                   try clear c73
                   try clear c73b0
                   try clear c74
                   try clear c74b0
                   try clear c80
                   try clear c80b0
                   try clear c80b1
                   try clear c80b2
                   try clear c81
                   try clear c81b0
                   try clear c81b1
                   try clear c81b2
                   try clear c82
                   try clear c83
                   try clear c83b0
                   try clear c83b1
                   try clear c83b2
                   try clear hx541_0
                   try clear hx542_0
                   try clear hx543_0
                   try clear hx544_0
                   try clear p2
                   try clear p5
                   try clear p54
                   try clear p541
                   try clear p542
                   try clear p543
                   try clear p544
                   try clear p6
                   try clear p64
                   try clear q5
                   try clear q54
                   try clear q541
                   try clear q542
                   try clear q543
                   try clear q544
                   obtain ⟨x24_6, x25_6, x200_6, rfl, HA, HK6, HO_1, HO_2, HO_24, HO_25, HB⟩ := hrel
                   cases gk with
                   | zero => exact absurd HA.out (by simp [waterhourlaw04_RefillAll.l1])
                   | succ k6 =>
                    have H := HA.out
                    clear HA
                    simp only [waterhourlaw04_RefillAll.l1] at H
                    by_cases c84 : x200_6 < (l1.length : Int)
                    ·rw [if_pos c84] at H
                     have c84b0 : decide (x200_6 < (l1.length : Int)) = true := decide_eq_true c84
                     clear c84
                     by_cases c85 : 0 ≤ x200_6
                     ·rw [if_pos c85] at H
                      have c85b0 : decide (0 ≤ x200_6) = true := decide_eq_true c85
                      clear c85
                      by_cases c86 : x200_6 < (l1.length : Int)
                      ·rw [if_pos c86] at H
                       have c86b0 : decide (x200_6 < (l1.length : Int)) = true := decide_eq_true c86
                       clear c86
                       by_cases c87 : x200_6 < (l2.length : Int)
                       ·rw [if_pos c87] at H
                        have c87b0 : decide (x200_6 < (l2.length : Int)) = true := decide_eq_true c87
                        clear c87
                        obtain ⟨ji88, hji88⟩ : ∃ j_ : Int, (mn (rd l1 x200_6) (rd l2 x200_6)) = j_ := ⟨_, rfl⟩
                        replace H : ((some (([ji88] : List Int) : List Int)).bind fun y547 => (if x24_6.length + y547.length < 17592186044416 then ((some (([mx (rd l1 x200_6) (rd l2 x200_6)] : List Int) : List Int)).bind fun y555 => (if x25_6.length + y555.length < 17592186044416 then (waterhourlaw04_RefillAll.l1 k6 l0 l1 l2 (x24_6 ++ y547) (x25_6 ++ y555) (l1.length : Int) (wrap64 (x200_6 + 1))) else (none))) else (none))) = some r := by first | (rw [hji88] at H; exact H) | (simp only [hji88] at H ⊢; exact H)
                        have hji88_ : (if (rd l2 x200_6) < (rd l1 x200_6) then (rd l2 x200_6) else (rd l1 x200_6)) = ji88 := hji88
                        obtain ⟨y547, hy547⟩ : ∃ y_ : List Int, y_ = (([ji88] : List Int)) := ⟨_, rfl⟩
                        replace H : (if x24_6.length + y547.length < 17592186044416 then ((some (([mx (rd l1 x200_6) (rd l2 x200_6)] : List Int) : List Int)).bind fun y555 => (if x25_6.length + y555.length < 17592186044416 then (waterhourlaw04_RefillAll.l1 k6 l0 l1 l2 (x24_6 ++ y547) (x25_6 ++ y555) (l1.length : Int) (wrap64 (x200_6 + 1))) else (none))) else (none)) = some r := by first | (rw [hy547]; with_reducible exact H) | (have H2_ := (Option.bind_some _ _).symm.trans H; rw [hy547]; with_reducible exact H2_) | (have H2_ := (Option.bind_some _ _).symm.trans H; with_reducible exact H2_) | with_reducible exact H | (rw [hy547]; exact H) | exact H
                        have Ny547 := a_ hy547
                        clear hy547
                        by_cases c89 : x24_6.length + y547.length < 17592186044416
                        ·rw [if_pos c89] at H
                         have LMc89 := a_ c89
                         clear c89
                         obtain ⟨y550, hy550⟩ : ∃ y_ : List Int, y_ = (x24_6 ++ y547) := ⟨_, rfl⟩
                         replace H : ((some (([mx (rd l1 x200_6) (rd l2 x200_6)] : List Int) : List Int)).bind fun y555 => (if x25_6.length + y555.length < 17592186044416 then (waterhourlaw04_RefillAll.l1 k6 l0 l1 l2 y550 (x25_6 ++ y555) (l1.length : Int) (wrap64 (x200_6 + 1))) else (none))) = some r := by first | (rw [hy550]; with_reducible exact H) | (have H2_ := (Option.bind_some _ _).symm.trans H; rw [hy550]; with_reducible exact H2_) | (have H2_ := (Option.bind_some _ _).symm.trans H; with_reducible exact H2_) | with_reducible exact H | (rw [hy550]; exact H) | exact H
                         have Ny550 := a_ hy550
                         clear hy550
                         obtain ⟨ji90, hji90⟩ : ∃ j_ : Int, (mx (rd l1 x200_6) (rd l2 x200_6)) = j_ := ⟨_, rfl⟩
                         replace H : ((some (([ji90] : List Int) : List Int)).bind fun y555 => (if x25_6.length + y555.length < 17592186044416 then (waterhourlaw04_RefillAll.l1 k6 l0 l1 l2 y550 (x25_6 ++ y555) (l1.length : Int) (wrap64 (x200_6 + 1))) else (none))) = some r := by first | (rw [hji90] at H; exact H) | (simp only [hji90] at H ⊢; exact H)
                         have hji90_ : (if (rd l1 x200_6) < (rd l2 x200_6) then (rd l2 x200_6) else (rd l1 x200_6)) = ji90 := hji90
                         obtain ⟨y555, hy555⟩ : ∃ y_ : List Int, y_ = (([ji90] : List Int)) := ⟨_, rfl⟩
                         replace H : (if x25_6.length + y555.length < 17592186044416 then (waterhourlaw04_RefillAll.l1 k6 l0 l1 l2 y550 (x25_6 ++ y555) (l1.length : Int) (wrap64 (x200_6 + 1))) else (none)) = some r := by first | (rw [hy555]; with_reducible exact H) | (have H2_ := (Option.bind_some _ _).symm.trans H; rw [hy555]; with_reducible exact H2_) | (have H2_ := (Option.bind_some _ _).symm.trans H; with_reducible exact H2_) | with_reducible exact H | (rw [hy555]; exact H) | exact H
                         have Ny555 := a_ hy555
                         clear hy555
                         by_cases c91 : x25_6.length + y555.length < 17592186044416
                         ·rw [if_pos c91] at H
                          have LMc91 := a_ c91
                          clear c91
                          obtain ⟨y558, hy558⟩ : ∃ y_ : List Int, y_ = (x25_6 ++ y555) := ⟨_, rfl⟩
                          replace H : (waterhourlaw04_RefillAll.l1 k6 l0 l1 l2 y550 y558 (l1.length : Int) (wrap64 (x200_6 + 1))) = some r := by first | (rw [hy558]; with_reducible exact H) | (have H2_ := (Option.bind_some _ _).symm.trans H; rw [hy558]; with_reducible exact H2_) | (have H2_ := (Option.bind_some _ _).symm.trans H; with_reducible exact H2_) | with_reducible exact H | (rw [hy558]; exact H) | exact H
                          have Ny558 := a_ hy558
                          clear hy558
                          have H' := a_ H
                          clear H
                          obtain ⟨Ao92, co92, eo92⟩ := Kd.R_slice HO_24.out
                          subst eo92
                          obtain ⟨Ao93, co93, eo93⟩ := Kd.R_slice HO_25.out
                          subst eo93
                          try go_wp2
                          have n0_ := a_ (Kd.V_drew HO_1.out)
                          have n1_ := a_ (Kd.V_drew HO_2.out)
                          have n2_ := a_ (Kd.R_drew HO_24.out)
                          have n3_ := a_ (Kd.R_drew HO_25.out)
                          have n4_ := a_ (below_drew1 HB.out)
                          clear HO_1
                          clear HO_2
                          clear HO_24
                          clear HO_25
                          clear HB
                          have HO_1 := n0_
                          have HO_2 := n1_
                          have HO_24 := n2_
                          have HO_25 := n3_
                          have HB := n4_
                          clear n0_ n1_ n2_ n3_ n4_
                          have p545 : 0 ≤ (x200_6 : Int) := of_decide_eq_true (by first | (with_reducible assumption) | assumption)
                          have q545 : x200_6 < (l1.length : Int) := of_decide_eq_true (by first | (with_reducible assumption) | assumption)
                          obtain ⟨ad545, e545, hx545_0⟩ := Kd.at_int (Kd.V_reads' HO_1.out).2.2 x200_6 p545 q545
                          cases e545
                          replace p545 := eq_true p545
                          replace q545 := eq_true q545
                          have p546 : 0 ≤ (x200_6 : Int) := of_decide_eq_true (by first | (with_reducible assumption) | assumption)
                          have q546 : x200_6 < (l2.length : Int) := of_decide_eq_true (by first | (with_reducible assumption) | assumption)
                          obtain ⟨ad546, e546, hx546_0⟩ := Kd.at_int (Kd.V_reads' HO_2.out).2.2 x200_6 p546 q546
                          cases e546
                          replace p546 := eq_true p546
                          replace q546 := eq_true q546
                          have p553 : 0 ≤ (x200_6 : Int) := of_decide_eq_true (by first | (with_reducible assumption) | assumption)
                          have q553 : x200_6 < (l1.length : Int) := of_decide_eq_true (by first | (with_reducible assumption) | assumption)
                          obtain ⟨ad553, e553, hx553_0⟩ := Kd.at_int (Kd.V_reads' HO_1.out).2.2 x200_6 p553 q553
                          obtain rfl : ad545 = ad553 := (by injection e553)
                          replace p553 := eq_true p553
                          replace q553 := eq_true q553
                          have p554 : 0 ≤ (x200_6 : Int) := of_decide_eq_true (by first | (with_reducible assumption) | assumption)
                          have q554 : x200_6 < (l2.length : Int) := of_decide_eq_true (by first | (with_reducible assumption) | assumption)
                          obtain ⟨ad554, e554, hx554_0⟩ := Kd.at_int (Kd.V_reads' HO_2.out).2.2 x200_6 p554 q554
                          obtain rfl : ad546 = ad554 := (by injection e554)
                          replace p554 := eq_true p554
                          replace q554 := eq_true q554
                          refine start_ (n := 26) (S := fun w' => w'.cell? (ad545.add (x200_6).toNat) = some (.int .i64 (rd l1 x200_6)) ∧ w'.cell? (ad546.add (x200_6).toNat) = some (.int .i64 (rd l2 x200_6)) ∧ w'.cell? (ad545.add (x200_6).toNat) = some (.int .i64 (rd l1 x200_6)) ∧ w'.cell? (ad546.add (x200_6).toNat) = some (.int .i64 (rd l2 x200_6))) (ds := []) #[false, false, false, false, false, false, false, false, false, false, false, false, false, false, false, false, false, false, false, false, false, false, false, false, false, false] (by kernel_rfl) rfl rfl ⟨hx545_0, hx546_0, hx553_0, hx554_0⟩ (fun hHeld => ?_); refine with_tabW waterhourlaw04_RefillAll.tab28 waterhourlaw04_RefillAll.bits28 (fun HT_ HW_ => ?_)
                          generalize wr.drew = w94 at HO_1 HO_2 HO_24 HO_25 HB hx545_0 hx546_0 hx553_0 hx554_0 hHeld ⊢
                          refine pz_ 0 203 HT_ ?_
                          refine pz_ 1 204 HT_ ?_
                          refine pz_ 2 205 HT_ ?_
                          refine pz_ 3 206 HT_ ?_
                          refine pz_ 5 208 HT_ ?_
                          refine pz_ 6 209 HT_ ?_
                          refine pz_ 7 210 HT_ ?_
                          refine pz_ 12 215 HT_ ?_
                          refine pz_ 13 216 HT_ ?_
                          refine pz_ 14 217 HT_ ?_
                          refine pz_ 15 218 HT_ ?_
                          refine pz_ 17 220 HT_ ?_
                          refine pz_ 18 221 HT_ ?_
                          refine pz_ 19 222 HT_ ?_
                          refine take_ (i := 4) (N := some 207) (v := ?_) (a' := ?_) #[true, true, true, true, true, true, true, true, false, false, false, false, true, true, true, true, false, true, true, true, false, false, false, false, false, false] rfl rfl (take_ofW HT_.out HW_.out (by kernel_rfl)) (fun _ _ _ h => h) (Or.inl ⟨by rfl, ?_⟩) hHeld ?_ ?_
                          rotate_left
                          ·rintro w' ⟨s0, s1, s2, s3⟩
                           go_simp
                           with_reducible rfl
                          rotate_left
                          ·simp only [Act.put, List.setIfInBounds_toArray, List.set_cons_zero, List.set_cons_succ, i64_w, i32_w]
                           rfl
                          refine take_ (i := 8) (N := some 211) (v := ?_) (a' := ?_) #[true, true, true, true, true, true, true, true, true, false, false, false, true, true, true, true, false, true, true, true, false, false, false, false, false, false] rfl rfl (take_ofW HT_.out HW_.out (by kernel_rfl)) (fun _ _ _ h => h) (Or.inl ⟨by rfl, ?_⟩) hHeld ?_ ?_
                          rotate_left
                          ·rintro w' ⟨s0, s1, s2, s3⟩
                           go_simp
                           with_reducible rfl
                          rotate_left
                          ·simp only [Act.put, List.setIfInBounds_toArray, List.set_cons_zero, List.set_cons_succ, i64_w, i32_w]
                           rfl
                          refine pz_ 9 212 HT_ ?_
                          refine take_ (i := 16) (N := some 219) (v := ?_) (a' := ?_) #[true, true, true, true, true, true, true, true, true, true, false, false, true, true, true, true, true, true, true, true, false, false, false, false, false, false] rfl rfl (take_ofW HT_.out HW_.out (by kernel_rfl)) (fun _ _ _ h => h) (Or.inl ⟨by rfl, ?_⟩) hHeld ?_ ?_
                          rotate_left
                          ·rintro w' ⟨s0, s1, s2, s3⟩
                           go_simp
                           with_reducible rfl
                          rotate_left
                          ·simp only [Act.put, List.setIfInBounds_toArray, List.set_cons_zero, List.set_cons_succ, i64_w, i32_w]
                           rfl
                          refine take_ (i := 20) (N := some 223) (v := ?_) (a' := ?_) #[true, true, true, true, true, true, true, true, true, true, false, false, true, true, true, true, true, true, true, true, true, false, false, false, false, false] rfl rfl (take_ofW HT_.out HW_.out (by kernel_rfl)) (fun _ _ _ h => h) (Or.inl ⟨by rfl, ?_⟩) hHeld ?_ ?_
                          rotate_left
                          ·rintro w' ⟨s0, s1, s2, s3⟩
                           go_simp
                           with_reducible rfl
                          rotate_left
                          ·simp only [Act.put, List.setIfInBounds_toArray, List.set_cons_zero, List.set_cons_succ, i64_w, i32_w]
                           rfl
                          refine pz_ 21 224 HT_ ?_
                          refine join_ (σ := Value × Value × Value) 3 #[true, true, true, true, true, true, true, true, true, true, true, true, true, true, true, true, true, true, true, true, true, true, true, false, false, false] (fun s_ => [(213, s_.1), (214, s_.2.1), (225, s_.2.2)]) (fun s_ w' => (w'.cell? (ad545.add (x200_6).toNat) = some (.int .i64 (rd l1 x200_6)) ∧ w'.cell? (ad546.add (x200_6).toNat) = some (.int .i64 (rd l2 x200_6)) ∧ w'.cell? (ad545.add (x200_6).toNat) = some (.int .i64 (rd l1 x200_6)) ∧ w'.cell? (ad546.add (x200_6).toNat) = some (.int .i64 (rd l2 x200_6))) ∧ (Kd.R (Kd.int .i64) 3 w' w.heap.size (fun k_ => (w.heap.size ≤ k_) ∧ some k_ ≠ (s_.2.1 : Value).ownBlock ∧ some k_ ≠ (s_.2.2 : Value).ownBlock ∧ some k_ ≠ (.slice Ao93 x25_6.length co93 : Value).ownBlock) s_.1 y547) ∧ (Kd.R (Kd.int .i64) 3 w' w.heap.size (fun k_ => (w.heap.size ≤ k_) ∧ some k_ ≠ (s_.1 : Value).ownBlock ∧ some k_ ≠ (s_.2.2 : Value).ownBlock ∧ some k_ ≠ (.slice Ao93 x25_6.length co93 : Value).ownBlock) s_.2.1 y550) ∧ (Kd.R (Kd.int .i64) 3 w' w.heap.size (fun k_ => (w.heap.size ≤ k_) ∧ some k_ ≠ (s_.1 : Value).ownBlock ∧ some k_ ≠ (s_.2.1 : Value).ownBlock ∧ some k_ ≠ (.slice Ao93 x25_6.length co93 : Value).ownBlock) s_.2.2 y555) ∧ (Kd.V (Kd.int .i64) 3 w' w.heap.size (fun k_ => ((P1_ k_ ∨ P2_ k_) ∨ w.heap.size ≤ k_) ∧ some k_ ≠ (s_.1 : Value).ownBlock ∧ some k_ ≠ (s_.2.1 : Value).ownBlock ∧ some k_ ≠ (s_.2.2 : Value).ownBlock ∧ some k_ ≠ (.slice Ao93 x25_6.length co93 : Value).ownBlock) (.slice (some ad545) l1.length c1) l1) ∧ (Kd.V (Kd.int .i64) 3 w' w.heap.size (fun k_ => ((P1_ k_ ∨ P2_ k_) ∨ w.heap.size ≤ k_) ∧ some k_ ≠ (s_.1 : Value).ownBlock ∧ some k_ ≠ (s_.2.1 : Value).ownBlock ∧ some k_ ≠ (s_.2.2 : Value).ownBlock ∧ some k_ ≠ (.slice Ao93 x25_6.length co93 : Value).ownBlock) (.slice (some ad546) l2.length c2) l2) ∧ (Kd.R (Kd.int .i64) 3 w' w.heap.size (fun k_ => (w.heap.size ≤ k_) ∧ some k_ ≠ (s_.1 : Value).ownBlock ∧ some k_ ≠ (s_.2.1 : Value).ownBlock ∧ some k_ ≠ (s_.2.2 : Value).ownBlock) (.slice Ao93 x25_6.length co93) x25_6) ∧ (Below w.heap.size w w')) ?_ ?_
                          rotate_left
                          ·intro hCont
                           refine two_ (i := 10) (j := 22) (Ni := some 213) (Nj := some 225) #[true, true, true, true, true, true, true, true, true, true, true, false, true, true, true, true, true, true, true, true, true, true, false, false, false, false] #[true, true, true, true, true, true, true, true, true, true, false, false, true, true, true, true, true, true, true, true, true, true, true, false, false, false] rfl rfl rfl rfl (two_of HT_.out (by kernel_rfl)) (by decide) (by decide) (fun K hK => ?_) (fun K hK => ?_)
                           ·skip
                            refine Kd.R_lit_step (Kd.int .i64) _ 3 ?hg (N := 213) ?hd (xs := ([ji88] : List Int)) (inner := [.int .i64 ji88]) (ok := fun _ => True) (okp := fun _ => True) ?hr ?hp (fun _ hk => hk) trivial (Below.refl _ _) (Nat.le_refl _) (by simp) ?_; (case hd => rfl); (case hg => rfl); (case hr => first | (go_simp; done) | (go_simp; rfl)); (case hp => exact (Reps.one (show Kd.M (Kd.int .i64) _ _ _ ji88 [.int .i64 ji88] from rfl) (Reps.none _ _)))
                            intro v548 w95 ho96 hb hg_ hnew_
                            have HS0_ := (hb.cell (World.block_lt_of_cell? _ _ (hHeld.1))).trans (hHeld.1)
                            have HS1_ := (hb.cell (World.block_lt_of_cell? _ _ (hHeld.2.1))).trans (hHeld.2.1)
                            have HS2_ := (hb.cell (World.block_lt_of_cell? _ _ (hHeld.2.2.1))).trans (hHeld.2.2.1)
                            have HS3_ := (hb.cell (World.block_lt_of_cell? _ _ (hHeld.2.2.2))).trans (hHeld.2.2.2)
                            clear hg_ hnew_
                            (first | rw [← Ny547.out] at ho96 | (simp only [Int.reduceToNat] at ho96; rw [← Ny547.out] at ho96))
                            have n0_ := a_ (Kd.V_elder' (vl_ HO_1.out) (Kd.R_base ho96) hb)
                            have n1_ := a_ (Kd.V_elder' (vl_ HO_2.out) (Kd.R_base ho96) hb)
                            have n2_ := a_ (Kd.R_elder' (rl_ HO_24.out) (Kd.R_base ho96) hb)
                            have n3_ := a_ (Kd.R_elder' (rl_ HO_25.out) (Kd.R_base ho96) hb)
                            have n4_ := a_ (Kd.R_lower (Kd.R_new' (Kd.R_new' (Kd.R_newM (M := fun k_ => (w.heap.size ≤ k_)) ho96 (below_size bl_) (fun k_ h_ => h_)) (Kd.R_lt (rl_ HO_24.out))) (Kd.R_lt (rl_ HO_25.out))) (below_size bl_))
                            have n5_ := a_ (below_step bl_ hb)
                            clear HO_1
                            clear HO_2
                            clear HO_24
                            clear HO_25
                            clear HB
                            have HO_1 := n0_
                            have HO_2 := n1_
                            have HO_24 := n2_
                            have HO_25 := n3_
                            have HO549 := n4_
                            have HB := n5_
                            clear n0_ n1_ n2_ n3_ n4_ n5_
                            clear hb ho96
                            obtain ⟨Ao98, co98, eo98⟩ := Kd.R_slice HO549.out
                            (first | subst eo98 | (injection eo98 with f1_ f2_ f3_; have f4_ := f1_.symm; have f5_ := f3_.symm; clear f1_ f2_ f3_; subst f4_; subst f5_))
                            refine hK.out _ _ ⟨HS0_, HS1_, HS2_, HS3_⟩ (fun hHeld => ?_)
                            clear hK K
                            refine norm_ (a' := ?_) ?_ ?_
                            rotate_left
                            ·show Act.put _ (some 213) _ = _
                             simp only [Act.put, List.setIfInBounds_toArray, List.set_cons_zero, List.set_cons_succ, i64_w, i32_w]
                             rfl
                            refine two_ (i := 11) (j := 22) (Ni := some 214) (Nj := some 225) #[true, true, true, true, true, true, true, true, true, true, true, true, true, true, true, true, true, true, true, true, true, true, false, false, false, false] #[true, true, true, true, true, true, true, true, true, true, true, false, true, true, true, true, true, true, true, true, true, true, true, false, false, false] rfl rfl rfl rfl (two_of HT_.out (by kernel_rfl)) (by decide) (by decide) (fun K hK => ?_) (fun K hK => ?_)
                            ·skip
                             refine Kd.R_append_rows_step (Kd.int .i64) (w0 := w) w.heap.size (by rfl) (.tmp 203) (.tmp 213) 26 3 (.int .i64 0) 8 rfl Tryd.underlying26 info3 rfl (by decide) (by omega) (.slice Ao92 x24_6.length co92) x24_6 y547 _ _ _ (fun k_ => (w.heap.size ≤ k_) ∧ some k_ ≠ (.slice Ao93 x25_6.length co93 : Value).ownBlock ∧ some k_ ≠ (.slice Ao98 y547.length co98 : Value).ownBlock) (fun _ => False) rfl rfl ?aO ?aR (fun _ _ h => h) (fun _ h => h.elim) ?aF ?aB ?aS ?aL ?_
                             (case aR => exact cl_ ((Kd.R_reads' HO549.out).2.2))
                             (case aB => exact bl_)
                             (case aF => exact (fun k_ hk => ⟨(Nat.le_trans (below_size bl_) hk), Kd.fresh' (Kd.R_lt (rl_ HO_25.out)) k_ hk, Kd.fresh' (Kd.R_lt (rl_ HO549.out)) k_ hk⟩))
                             (case aO => exact (by (with_reducible repeat (first | apply Kd.R_alloc | apply Kd.R_drewN | apply Kd.R_drew)); exact Kd.R_mono HO_24.out (fun _ hk => ⟨hk.1.1, ⟨hk.1.2, hk.2⟩⟩)))
                             (case aS => exact (below_size bl_))
                             (case aL => have := LMc89.out; omega)
                             intro v551 w97 ho hb hg hat
                             rw [← Ny550.out] at ho
                             have n0_ := a_ (Kd.V_afterv (ok := (fun k_ => ((P1_ k_ ∨ P2_ k_) ∨ w.heap.size ≤ k_) ∧ some k_ ≠ (.slice Ao93 x25_6.length co93 : Value).ownBlock ∧ some k_ ≠ (.slice Ao98 y547.length co98 : Value).ownBlock)) (by (with_reducible repeat (first | apply Kd.V_alloc | apply Kd.V_drewN | apply Kd.V_drew)); exact Kd.V_mono HO_1.out (fun _ hk => ⟨⟨hk.1.1, ⟨hk.1.2.2, hk.2⟩⟩, hk.1.2.1⟩)) hg hat)
                             have n1_ := a_ (Kd.V_afterv (ok := (fun k_ => ((P1_ k_ ∨ P2_ k_) ∨ w.heap.size ≤ k_) ∧ some k_ ≠ (.slice Ao93 x25_6.length co93 : Value).ownBlock ∧ some k_ ≠ (.slice Ao98 y547.length co98 : Value).ownBlock)) (by (with_reducible repeat (first | apply Kd.V_alloc | apply Kd.V_drewN | apply Kd.V_drew)); exact Kd.V_mono HO_2.out (fun _ hk => ⟨⟨hk.1.1, ⟨hk.1.2.2, hk.2⟩⟩, hk.1.2.1⟩)) hg hat)
                             have n2_ := a_ (Kd.R_after (ok := (fun k_ => (w.heap.size ≤ k_) ∧ some k_ ≠ (.slice Ao98 y547.length co98 : Value).ownBlock)) (by (with_reducible repeat (first | apply Kd.R_alloc | apply Kd.R_drewN | apply Kd.R_drew)); exact Kd.R_mono HO_25.out (fun _ hk => ⟨⟨hk.1.1, hk.2⟩, hk.1.2⟩)) hg hat)
                             have n3_ := a_ (Kd.R_after (ok := (fun k_ => (w.heap.size ≤ k_) ∧ some k_ ≠ (.slice Ao93 x25_6.length co93 : Value).ownBlock)) (by (with_reducible repeat (first | apply Kd.R_alloc | apply Kd.R_drewN | apply Kd.R_drew)); exact Kd.R_mono HO549.out (fun _ hk => ⟨⟨hk.1.1.1, hk.2⟩, hk.1.2⟩)) hg hat)
                             have n4_ := a_ (hb)
                             have n5_ := a_ (ho)
                             clear HO_1
                             clear HO_2
                             clear HO_25
                             clear HO549
                             clear HB
                             clear HO_24
                             have HO_1 := n0_
                             have HO_2 := n1_
                             have HO_25 := n2_
                             have HO549 := n3_
                             have HB := n4_
                             have HO552 := n5_
                             clear n0_ n1_ n2_ n3_ n4_ n5_
                             clear ho hb hg hat
                             refine hK.out _ _ ⟨(by obtain ⟨a_, e_, h_⟩ := Kd.at_int (Kd.V_reads' HO_1.out).2.2 _ (of_eq_true p545) (of_eq_true q545); cases e_; exact h_), (by obtain ⟨a_, e_, h_⟩ := Kd.at_int (Kd.V_reads' HO_2.out).2.2 _ (of_eq_true p546) (of_eq_true q546); cases e_; exact h_), (by obtain ⟨a_, e_, h_⟩ := Kd.at_int (Kd.V_reads' HO_1.out).2.2 _ (of_eq_true p553) (of_eq_true q553); cases e_; exact h_), (by obtain ⟨a_, e_, h_⟩ := Kd.at_int (Kd.V_reads' HO_2.out).2.2 _ (of_eq_true p554) (of_eq_true q554); cases e_; exact h_)⟩ (fun hHeld => ?_)
                             clear hK K
                             refine norm_ (a' := ?_) ?_ ?_
                             rotate_left
                             ·show Act.put _ (some 214) _ = _
                              simp only [Act.put, List.setIfInBounds_toArray, List.set_cons_zero, List.set_cons_succ, i64_w, i32_w]
                              rfl
                             refine one_ (i := 22) (N := some 225) #[true, true, true, true, true, true, true, true, true, true, true, true, true, true, true, true, true, true, true, true, true, true, true, false, false, false] rfl rfl (one_of HT_.out (by kernel_rfl)) (by decide) (fun K hK => ?_)
                             refine Kd.R_lit_step (Kd.int .i64) _ 3 ?hg (N := 225) ?hd (xs := ([ji90] : List Int)) (inner := [.int .i64 ji90]) (ok := fun _ => True) (okp := fun _ => True) ?hr ?hp (fun _ hk => hk) trivial (Below.refl _ _) (Nat.le_refl _) (by simp) ?_; (case hd => rfl); (case hg => rfl); (case hr => first | (go_simp; done) | (go_simp; rfl)); (case hp => exact (Reps.one (show Kd.M (Kd.int .i64) _ _ _ ji90 [.int .i64 ji90] from rfl) (Reps.none _ _)))
                             intro v556 w99 ho100 hb hg_ hnew_
                             have HS0_ := (hb.cell (World.block_lt_of_cell? _ _ (hHeld.1))).trans (hHeld.1)
                             have HS1_ := (hb.cell (World.block_lt_of_cell? _ _ (hHeld.2.1))).trans (hHeld.2.1)
                             have HS2_ := (hb.cell (World.block_lt_of_cell? _ _ (hHeld.2.2.1))).trans (hHeld.2.2.1)
                             have HS3_ := (hb.cell (World.block_lt_of_cell? _ _ (hHeld.2.2.2))).trans (hHeld.2.2.2)
                             clear hg_ hnew_
                             (first | rw [← Ny555.out] at ho100 | (simp only [Int.reduceToNat] at ho100; rw [← Ny555.out] at ho100))
                             have n0_ := a_ (Kd.V_elder' (vl_ HO_1.out) (Kd.R_base ho100) hb)
                             have n1_ := a_ (Kd.V_elder' (vl_ HO_2.out) (Kd.R_base ho100) hb)
                             have n2_ := a_ (Kd.R_elder' (rl_ HO_25.out) (Kd.R_base ho100) hb)
                             have n3_ := a_ (Kd.R_elder' (rl_ HO549.out) (Kd.R_base ho100) hb)
                             have n4_ := a_ (Kd.R_elder' (rl_ HO552.out) (Kd.R_base ho100) hb)
                             have n5_ := a_ (Kd.R_lower (Kd.R_new' (Kd.R_new' (Kd.R_new' (Kd.R_newM (M := fun k_ => (w.heap.size ≤ k_)) ho100 (below_size bl_) (fun k_ h_ => h_)) (Kd.R_lt (rl_ HO_25.out))) (Kd.R_lt (rl_ HO549.out))) (Kd.R_lt (rl_ HO552.out))) (below_size bl_))
                             have n6_ := a_ (below_step bl_ hb)
                             clear HO_1
                             clear HO_2
                             clear HO_25
                             clear HO549
                             clear HO552
                             clear HB
                             have HO_1 := n0_
                             have HO_2 := n1_
                             have HO_25 := n2_
                             have HO549 := n3_
                             have HO552 := n4_
                             have HO557 := n5_
                             have HB := n6_
                             clear n0_ n1_ n2_ n3_ n4_ n5_ n6_
                             clear hb ho100
                             refine hK.out _ _ ⟨HS0_, HS1_, HS2_, HS3_⟩ (fun hHeld => ?_)
                             clear hK K
                             refine norm_ (a' := ?_) ?_ ?_
                             rotate_left
                             ·show Act.put _ (some 225) _ = _
                              simp only [Act.put, List.setIfInBounds_toArray, List.set_cons_zero, List.set_cons_succ, i64_w, i32_w]
                              rfl
                             exact norm_ (by simp only [putAll, Act.put, List.setIfInBounds_toArray, List.set_cons_zero, List.set_cons_succ]) (hCont (.slice Ao98 y547.length co98, v551, v556) _ ⟨hHeld, (by (with_reducible repeat (first | apply Kd.R_alloc | apply Kd.R_drewN | apply Kd.R_drew)); exact Kd.R_mono HO549.out (fun _ hk => ⟨hk.1.1.1, ⟨hk.1.2, ⟨hk.2, hk.1.1.2⟩⟩⟩)), (by (with_reducible repeat (first | apply Kd.R_alloc | apply Kd.R_drewN | apply Kd.R_drew)); exact Kd.R_mono HO552.out (fun _ hk => ⟨hk.1.1, ⟨hk.1.2.2, ⟨hk.2, hk.1.2.1⟩⟩⟩)), (by (with_reducible repeat (first | apply Kd.R_alloc | apply Kd.R_drewN | apply Kd.R_drew)); exact Kd.R_mono HO557.out (fun _ hk => ⟨hk.1.1.1.1, ⟨hk.1.2, ⟨hk.2, hk.1.1.2⟩⟩⟩)), (by (with_reducible repeat (first | apply Kd.V_alloc | apply Kd.V_drewN | apply Kd.V_drew)); exact Kd.V_mono HO_1.out (fun _ hk => ⟨hk.1.1.1, ⟨hk.1.1.2.2, ⟨hk.1.2, ⟨hk.2, hk.1.1.2.1⟩⟩⟩⟩)), (by (with_reducible repeat (first | apply Kd.V_alloc | apply Kd.V_drewN | apply Kd.V_drew)); exact Kd.V_mono HO_2.out (fun _ hk => ⟨hk.1.1.1, ⟨hk.1.1.2.2, ⟨hk.1.2, ⟨hk.2, hk.1.1.2.1⟩⟩⟩⟩)), (by (with_reducible repeat (first | apply Kd.R_alloc | apply Kd.R_drewN | apply Kd.R_drew)); exact Kd.R_mono HO_25.out (fun _ hk => ⟨hk.1.1.1, ⟨hk.1.1.2, ⟨hk.1.2, hk.2⟩⟩⟩)), bl_⟩)
                            ·skip
                             refine Kd.R_lit_step (Kd.int .i64) _ 3 ?hg (N := 225) ?hd (xs := ([ji90] : List Int)) (inner := [.int .i64 ji90]) (ok := fun _ => True) (okp := fun _ => True) ?hr ?hp (fun _ hk => hk) trivial (Below.refl _ _) (Nat.le_refl _) (by simp) ?_; (case hd => rfl); (case hg => rfl); (case hr => first | (go_simp; done) | (go_simp; rfl)); (case hp => exact (Reps.one (show Kd.M (Kd.int .i64) _ _ _ ji90 [.int .i64 ji90] from rfl) (Reps.none _ _)))
                             intro v556 w97 ho98 hb hg_ hnew_
                             have HS0_ := (hb.cell (World.block_lt_of_cell? _ _ (hHeld.1))).trans (hHeld.1)
                             have HS1_ := (hb.cell (World.block_lt_of_cell? _ _ (hHeld.2.1))).trans (hHeld.2.1)
                             have HS2_ := (hb.cell (World.block_lt_of_cell? _ _ (hHeld.2.2.1))).trans (hHeld.2.2.1)
                             have HS3_ := (hb.cell (World.block_lt_of_cell? _ _ (hHeld.2.2.2))).trans (hHeld.2.2.2)
                             clear hg_ hnew_
                             (first | rw [← Ny555.out] at ho98 | (simp only [Int.reduceToNat] at ho98; rw [← Ny555.out] at ho98))
                             have n0_ := a_ (Kd.V_elder' (vl_ HO_1.out) (Kd.R_base ho98) hb)
                             have n1_ := a_ (Kd.V_elder' (vl_ HO_2.out) (Kd.R_base ho98) hb)
                             have n2_ := a_ (Kd.R_elder' (rl_ HO_24.out) (Kd.R_base ho98) hb)
                             have n3_ := a_ (Kd.R_elder' (rl_ HO_25.out) (Kd.R_base ho98) hb)
                             have n4_ := a_ (Kd.R_elder' (rl_ HO549.out) (Kd.R_base ho98) hb)
                             have n5_ := a_ (Kd.R_lower (Kd.R_new' (Kd.R_new' (Kd.R_new' (Kd.R_newM (M := fun k_ => (w.heap.size ≤ k_)) ho98 (below_size bl_) (fun k_ h_ => h_)) (Kd.R_lt (rl_ HO_24.out))) (Kd.R_lt (rl_ HO_25.out))) (Kd.R_lt (rl_ HO549.out))) (below_size bl_))
                             have n6_ := a_ (below_step bl_ hb)
                             clear HO_1
                             clear HO_2
                             clear HO_24
                             clear HO_25
                             clear HO549
                             clear HB
                             have HO_1 := n0_
                             have HO_2 := n1_
                             have HO_24 := n2_
                             have HO_25 := n3_
                             have HO549 := n4_
                             have HO557 := n5_
                             have HB := n6_
                             clear n0_ n1_ n2_ n3_ n4_ n5_ n6_
                             clear hb ho98
                             obtain ⟨Ao100, co100, eo100⟩ := Kd.R_slice HO549.out
                             (first | subst eo100 | (injection eo100 with f1_ f2_ f3_; have f4_ := f1_.symm; have f5_ := f3_.symm; clear f1_ f2_ f3_; subst f4_; subst f5_))
                             refine hK.out _ _ ⟨HS0_, HS1_, HS2_, HS3_⟩ (fun hHeld => ?_)
                             clear hK K
                             refine norm_ (a' := ?_) ?_ ?_
                             rotate_left
                             ·show Act.put _ (some 225) _ = _
                              simp only [Act.put, List.setIfInBounds_toArray, List.set_cons_zero, List.set_cons_succ, i64_w, i32_w]
                              rfl
                             refine one_ (i := 11) (N := some 214) #[true, true, true, true, true, true, true, true, true, true, true, true, true, true, true, true, true, true, true, true, true, true, true, false, false, false] rfl rfl (one_of HT_.out (by kernel_rfl)) (by decide) (fun K hK => ?_)
                             refine Kd.R_append_rows_step (Kd.int .i64) (w0 := w) w.heap.size (by rfl) (.tmp 203) (.tmp 213) 26 3 (.int .i64 0) 8 rfl Tryd.underlying26 info3 rfl (by decide) (by omega) (.slice Ao92 x24_6.length co92) x24_6 y547 _ _ _ (fun k_ => (w.heap.size ≤ k_) ∧ some k_ ≠ (.slice Ao93 x25_6.length co93 : Value).ownBlock ∧ some k_ ≠ (.slice Ao100 y547.length co100 : Value).ownBlock ∧ some k_ ≠ (v556 : Value).ownBlock) (fun _ => False) rfl rfl ?aO ?aR (fun _ _ h => h) (fun _ h => h.elim) ?aF ?aB ?aS ?aL ?_
                             (case aR => exact cl_ ((Kd.R_reads' HO549.out).2.2))
                             (case aB => exact bl_)
                             (case aF => exact (fun k_ hk => ⟨(Nat.le_trans (below_size bl_) hk), Kd.fresh' (Kd.R_lt (rl_ HO_25.out)) k_ hk, Kd.fresh' (Kd.R_lt (rl_ HO549.out)) k_ hk, Kd.fresh' (Kd.R_lt (rl_ HO557.out)) k_ hk⟩))
                             (case aO => exact (by (with_reducible repeat (first | apply Kd.R_alloc | apply Kd.R_drewN | apply Kd.R_drew)); exact Kd.R_mono HO_24.out (fun _ hk => ⟨hk.1.1.1, ⟨hk.1.1.2, ⟨hk.1.2, hk.2⟩⟩⟩)))
                             (case aS => exact (below_size bl_))
                             (case aL => have := LMc89.out; omega)
                             intro v551 w99 ho hb hg hat
                             rw [← Ny550.out] at ho
                             have n0_ := a_ (Kd.V_afterv (ok := (fun k_ => ((P1_ k_ ∨ P2_ k_) ∨ w.heap.size ≤ k_) ∧ some k_ ≠ (.slice Ao93 x25_6.length co93 : Value).ownBlock ∧ some k_ ≠ (.slice Ao100 y547.length co100 : Value).ownBlock ∧ some k_ ≠ (v556 : Value).ownBlock)) (by (with_reducible repeat (first | apply Kd.V_alloc | apply Kd.V_drewN | apply Kd.V_drew)); exact Kd.V_mono HO_1.out (fun _ hk => ⟨⟨hk.1.1.1, ⟨hk.1.1.2.2, ⟨hk.1.2, hk.2⟩⟩⟩, hk.1.1.2.1⟩)) hg hat)
                             have n1_ := a_ (Kd.V_afterv (ok := (fun k_ => ((P1_ k_ ∨ P2_ k_) ∨ w.heap.size ≤ k_) ∧ some k_ ≠ (.slice Ao93 x25_6.length co93 : Value).ownBlock ∧ some k_ ≠ (.slice Ao100 y547.length co100 : Value).ownBlock ∧ some k_ ≠ (v556 : Value).ownBlock)) (by (with_reducible repeat (first | apply Kd.V_alloc | apply Kd.V_drewN | apply Kd.V_drew)); exact Kd.V_mono HO_2.out (fun _ hk => ⟨⟨hk.1.1.1, ⟨hk.1.1.2.2, ⟨hk.1.2, hk.2⟩⟩⟩, hk.1.1.2.1⟩)) hg hat)
                             have n2_ := a_ (Kd.R_after (ok := (fun k_ => (w.heap.size ≤ k_) ∧ some k_ ≠ (.slice Ao100 y547.length co100 : Value).ownBlock ∧ some k_ ≠ (v556 : Value).ownBlock)) (by (with_reducible repeat (first | apply Kd.R_alloc | apply Kd.R_drewN | apply Kd.R_drew)); exact Kd.R_mono HO_25.out (fun _ hk => ⟨⟨hk.1.1.1, ⟨hk.1.2, hk.2⟩⟩, hk.1.1.2⟩)) hg hat)
                             have n3_ := a_ (Kd.R_after (ok := (fun k_ => (w.heap.size ≤ k_) ∧ some k_ ≠ (.slice Ao93 x25_6.length co93 : Value).ownBlock ∧ some k_ ≠ (v556 : Value).ownBlock)) (by (with_reducible repeat (first | apply Kd.R_alloc | apply Kd.R_drewN | apply Kd.R_drew)); exact Kd.R_mono HO549.out (fun _ hk => ⟨⟨hk.1.1.1.1, ⟨hk.1.2, hk.2⟩⟩, hk.1.1.2⟩)) hg hat)
                             have n4_ := a_ (Kd.R_after (ok := (fun k_ => (w.heap.size ≤ k_) ∧ some k_ ≠ (.slice Ao93 x25_6.length co93 : Value).ownBlock ∧ some k_ ≠ (.slice Ao100 y547.length co100 : Value).ownBlock)) (by (with_reducible repeat (first | apply Kd.R_alloc | apply Kd.R_drewN | apply Kd.R_drew)); exact Kd.R_mono HO557.out (fun _ hk => ⟨⟨hk.1.1.1.1, ⟨hk.1.2, hk.2⟩⟩, hk.1.1.2⟩)) hg hat)
                             have n5_ := a_ (hb)
                             have n6_ := a_ (ho)
                             clear HO_1
                             clear HO_2
                             clear HO_25
                             clear HO549
                             clear HO557
                             clear HB
                             clear HO_24
                             have HO_1 := n0_
                             have HO_2 := n1_
                             have HO_25 := n2_
                             have HO549 := n3_
                             have HO557 := n4_
                             have HB := n5_
                             have HO552 := n6_
                             clear n0_ n1_ n2_ n3_ n4_ n5_ n6_
                             clear ho hb hg hat
                             refine hK.out _ _ ⟨(by obtain ⟨a_, e_, h_⟩ := Kd.at_int (Kd.V_reads' HO_1.out).2.2 _ (of_eq_true p545) (of_eq_true q545); cases e_; exact h_), (by obtain ⟨a_, e_, h_⟩ := Kd.at_int (Kd.V_reads' HO_2.out).2.2 _ (of_eq_true p546) (of_eq_true q546); cases e_; exact h_), (by obtain ⟨a_, e_, h_⟩ := Kd.at_int (Kd.V_reads' HO_1.out).2.2 _ (of_eq_true p553) (of_eq_true q553); cases e_; exact h_), (by obtain ⟨a_, e_, h_⟩ := Kd.at_int (Kd.V_reads' HO_2.out).2.2 _ (of_eq_true p554) (of_eq_true q554); cases e_; exact h_)⟩ (fun hHeld => ?_)
                             clear hK K
                             refine norm_ (a' := ?_) ?_ ?_
                             rotate_left
                             ·show Act.put _ (some 214) _ = _
                              simp only [Act.put, List.setIfInBounds_toArray, List.set_cons_zero, List.set_cons_succ, i64_w, i32_w]
                              rfl
                             exact norm_ (by simp only [putAll, Act.put, List.setIfInBounds_toArray, List.set_cons_zero, List.set_cons_succ]) (hCont (.slice Ao100 y547.length co100, v551, v556) _ ⟨hHeld, (by (with_reducible repeat (first | apply Kd.R_alloc | apply Kd.R_drewN | apply Kd.R_drew)); exact Kd.R_mono HO549.out (fun _ hk => ⟨hk.1.1, ⟨hk.2, ⟨hk.1.2.2, hk.1.2.1⟩⟩⟩)), (by (with_reducible repeat (first | apply Kd.R_alloc | apply Kd.R_drewN | apply Kd.R_drew)); exact Kd.R_mono HO552.out (fun _ hk => ⟨hk.1, ⟨hk.2.2.1, ⟨hk.2.2.2, hk.2.1⟩⟩⟩)), (by (with_reducible repeat (first | apply Kd.R_alloc | apply Kd.R_drewN | apply Kd.R_drew)); exact Kd.R_mono HO557.out (fun _ hk => ⟨hk.1.1, ⟨hk.1.2.2, ⟨hk.2, hk.1.2.1⟩⟩⟩)), (by (with_reducible repeat (first | apply Kd.V_alloc | apply Kd.V_drewN | apply Kd.V_drew)); exact Kd.V_mono HO_1.out (fun _ hk => ⟨hk.1.1, ⟨hk.1.2.2.1, ⟨hk.2, ⟨hk.1.2.2.2, hk.1.2.1⟩⟩⟩⟩)), (by (with_reducible repeat (first | apply Kd.V_alloc | apply Kd.V_drewN | apply Kd.V_drew)); exact Kd.V_mono HO_2.out (fun _ hk => ⟨hk.1.1, ⟨hk.1.2.2.1, ⟨hk.2, ⟨hk.1.2.2.2, hk.1.2.1⟩⟩⟩⟩)), (by (with_reducible repeat (first | apply Kd.R_alloc | apply Kd.R_drewN | apply Kd.R_drew)); exact Kd.R_mono HO_25.out (fun _ hk => ⟨hk.1.1, ⟨hk.1.2.1, ⟨hk.2, hk.1.2.2⟩⟩⟩)), bl_⟩)
                           ·skip
                            refine Kd.R_lit_step (Kd.int .i64) _ 3 ?hg (N := 225) ?hd (xs := ([ji90] : List Int)) (inner := [.int .i64 ji90]) (ok := fun _ => True) (okp := fun _ => True) ?hr ?hp (fun _ hk => hk) trivial (Below.refl _ _) (Nat.le_refl _) (by simp) ?_; (case hd => rfl); (case hg => rfl); (case hr => first | (go_simp; done) | (go_simp; rfl)); (case hp => exact (Reps.one (show Kd.M (Kd.int .i64) _ _ _ ji90 [.int .i64 ji90] from rfl) (Reps.none _ _)))
                            intro v556 w95 ho96 hb hg_ hnew_
                            have HS0_ := (hb.cell (World.block_lt_of_cell? _ _ (hHeld.1))).trans (hHeld.1)
                            have HS1_ := (hb.cell (World.block_lt_of_cell? _ _ (hHeld.2.1))).trans (hHeld.2.1)
                            have HS2_ := (hb.cell (World.block_lt_of_cell? _ _ (hHeld.2.2.1))).trans (hHeld.2.2.1)
                            have HS3_ := (hb.cell (World.block_lt_of_cell? _ _ (hHeld.2.2.2))).trans (hHeld.2.2.2)
                            clear hg_ hnew_
                            (first | rw [← Ny555.out] at ho96 | (simp only [Int.reduceToNat] at ho96; rw [← Ny555.out] at ho96))
                            have n0_ := a_ (Kd.V_elder' (vl_ HO_1.out) (Kd.R_base ho96) hb)
                            have n1_ := a_ (Kd.V_elder' (vl_ HO_2.out) (Kd.R_base ho96) hb)
                            have n2_ := a_ (Kd.R_elder' (rl_ HO_24.out) (Kd.R_base ho96) hb)
                            have n3_ := a_ (Kd.R_elder' (rl_ HO_25.out) (Kd.R_base ho96) hb)
                            have n4_ := a_ (Kd.R_lower (Kd.R_new' (Kd.R_new' (Kd.R_newM (M := fun k_ => (w.heap.size ≤ k_)) ho96 (below_size bl_) (fun k_ h_ => h_)) (Kd.R_lt (rl_ HO_24.out))) (Kd.R_lt (rl_ HO_25.out))) (below_size bl_))
                            have n5_ := a_ (below_step bl_ hb)
                            clear HO_1
                            clear HO_2
                            clear HO_24
                            clear HO_25
                            clear HB
                            have HO_1 := n0_
                            have HO_2 := n1_
                            have HO_24 := n2_
                            have HO_25 := n3_
                            have HO557 := n4_
                            have HB := n5_
                            clear n0_ n1_ n2_ n3_ n4_ n5_
                            clear hb ho96
                            refine hK.out _ _ ⟨HS0_, HS1_, HS2_, HS3_⟩ (fun hHeld => ?_)
                            clear hK K
                            refine norm_ (a' := ?_) ?_ ?_
                            rotate_left
                            ·show Act.put _ (some 225) _ = _
                             simp only [Act.put, List.setIfInBounds_toArray, List.set_cons_zero, List.set_cons_succ, i64_w, i32_w]
                             rfl
                            refine one_ (i := 10) (N := some 213) #[true, true, true, true, true, true, true, true, true, true, true, false, true, true, true, true, true, true, true, true, true, true, true, false, false, false] rfl rfl (one_of HT_.out (by kernel_rfl)) (by decide) (fun K hK => ?_)
                            refine Kd.R_lit_step (Kd.int .i64) _ 3 ?hg (N := 213) ?hd (xs := ([ji88] : List Int)) (inner := [.int .i64 ji88]) (ok := fun _ => True) (okp := fun _ => True) ?hr ?hp (fun _ hk => hk) trivial (Below.refl _ _) (Nat.le_refl _) (by simp) ?_; (case hd => rfl); (case hg => rfl); (case hr => first | (go_simp; done) | (go_simp; rfl)); (case hp => exact (Reps.one (show Kd.M (Kd.int .i64) _ _ _ ji88 [.int .i64 ji88] from rfl) (Reps.none _ _)))
                            intro v548 w97 ho98 hb hg_ hnew_
                            have HS0_ := (hb.cell (World.block_lt_of_cell? _ _ (hHeld.1))).trans (hHeld.1)
                            have HS1_ := (hb.cell (World.block_lt_of_cell? _ _ (hHeld.2.1))).trans (hHeld.2.1)
                            have HS2_ := (hb.cell (World.block_lt_of_cell? _ _ (hHeld.2.2.1))).trans (hHeld.2.2.1)
                            have HS3_ := (hb.cell (World.block_lt_of_cell? _ _ (hHeld.2.2.2))).trans (hHeld.2.2.2)
                            clear hg_ hnew_
                            (first | rw [← Ny547.out] at ho98 | (simp only [Int.reduceToNat] at ho98; rw [← Ny547.out] at ho98))
                            have n0_ := a_ (Kd.V_elder' (vl_ HO_1.out) (Kd.R_base ho98) hb)
                            have n1_ := a_ (Kd.V_elder' (vl_ HO_2.out) (Kd.R_base ho98) hb)
                            have n2_ := a_ (Kd.R_elder' (rl_ HO_24.out) (Kd.R_base ho98) hb)
                            have n3_ := a_ (Kd.R_elder' (rl_ HO_25.out) (Kd.R_base ho98) hb)
                            have n4_ := a_ (Kd.R_elder' (rl_ HO557.out) (Kd.R_base ho98) hb)
                            have n5_ := a_ (Kd.R_lower (Kd.R_new' (Kd.R_new' (Kd.R_new' (Kd.R_newM (M := fun k_ => (w.heap.size ≤ k_)) ho98 (below_size bl_) (fun k_ h_ => h_)) (Kd.R_lt (rl_ HO_24.out))) (Kd.R_lt (rl_ HO_25.out))) (Kd.R_lt (rl_ HO557.out))) (below_size bl_))
                            have n6_ := a_ (below_step bl_ hb)
                            clear HO_1
                            clear HO_2
                            clear HO_24
                            clear HO_25
                            clear HO557
                            clear HB
                            have HO_1 := n0_
                            have HO_2 := n1_
                            have HO_24 := n2_
                            have HO_25 := n3_
                            have HO557 := n4_
                            have HO549 := n5_
                            have HB := n6_
                            clear n0_ n1_ n2_ n3_ n4_ n5_ n6_
                            clear hb ho98
                            obtain ⟨Ao100, co100, eo100⟩ := Kd.R_slice HO549.out
                            (first | subst eo100 | (injection eo100 with f1_ f2_ f3_; have f4_ := f1_.symm; have f5_ := f3_.symm; clear f1_ f2_ f3_; subst f4_; subst f5_))
                            refine hK.out _ _ ⟨HS0_, HS1_, HS2_, HS3_⟩ (fun hHeld => ?_)
                            clear hK K
                            refine norm_ (a' := ?_) ?_ ?_
                            rotate_left
                            ·show Act.put _ (some 213) _ = _
                             simp only [Act.put, List.setIfInBounds_toArray, List.set_cons_zero, List.set_cons_succ, i64_w, i32_w]
                             rfl
                            refine one_ (i := 11) (N := some 214) #[true, true, true, true, true, true, true, true, true, true, true, true, true, true, true, true, true, true, true, true, true, true, true, false, false, false] rfl rfl (one_of HT_.out (by kernel_rfl)) (by decide) (fun K hK => ?_)
                            refine Kd.R_append_rows_step (Kd.int .i64) (w0 := w) w.heap.size (by rfl) (.tmp 203) (.tmp 213) 26 3 (.int .i64 0) 8 rfl Tryd.underlying26 info3 rfl (by decide) (by omega) (.slice Ao92 x24_6.length co92) x24_6 y547 _ _ _ (fun k_ => (w.heap.size ≤ k_) ∧ some k_ ≠ (.slice Ao93 x25_6.length co93 : Value).ownBlock ∧ some k_ ≠ (v556 : Value).ownBlock ∧ some k_ ≠ (.slice Ao100 y547.length co100 : Value).ownBlock) (fun _ => False) rfl rfl ?aO ?aR (fun _ _ h => h) (fun _ h => h.elim) ?aF ?aB ?aS ?aL ?_
                            (case aR => exact cl_ ((Kd.R_reads' HO549.out).2.2))
                            (case aB => exact bl_)
                            (case aF => exact (fun k_ hk => ⟨(Nat.le_trans (below_size bl_) hk), Kd.fresh' (Kd.R_lt (rl_ HO_25.out)) k_ hk, Kd.fresh' (Kd.R_lt (rl_ HO557.out)) k_ hk, Kd.fresh' (Kd.R_lt (rl_ HO549.out)) k_ hk⟩))
                            (case aO => exact (by (with_reducible repeat (first | apply Kd.R_alloc | apply Kd.R_drewN | apply Kd.R_drew)); exact Kd.R_mono HO_24.out (fun _ hk => ⟨hk.1.1.1, ⟨hk.1.1.2, ⟨hk.1.2, hk.2⟩⟩⟩)))
                            (case aS => exact (below_size bl_))
                            (case aL => have := LMc89.out; omega)
                            intro v551 w99 ho hb hg hat
                            rw [← Ny550.out] at ho
                            have n0_ := a_ (Kd.V_afterv (ok := (fun k_ => ((P1_ k_ ∨ P2_ k_) ∨ w.heap.size ≤ k_) ∧ some k_ ≠ (.slice Ao93 x25_6.length co93 : Value).ownBlock ∧ some k_ ≠ (v556 : Value).ownBlock ∧ some k_ ≠ (.slice Ao100 y547.length co100 : Value).ownBlock)) (by (with_reducible repeat (first | apply Kd.V_alloc | apply Kd.V_drewN | apply Kd.V_drew)); exact Kd.V_mono HO_1.out (fun _ hk => ⟨⟨hk.1.1.1, ⟨hk.1.1.2.2, ⟨hk.1.2, hk.2⟩⟩⟩, hk.1.1.2.1⟩)) hg hat)
                            have n1_ := a_ (Kd.V_afterv (ok := (fun k_ => ((P1_ k_ ∨ P2_ k_) ∨ w.heap.size ≤ k_) ∧ some k_ ≠ (.slice Ao93 x25_6.length co93 : Value).ownBlock ∧ some k_ ≠ (v556 : Value).ownBlock ∧ some k_ ≠ (.slice Ao100 y547.length co100 : Value).ownBlock)) (by (with_reducible repeat (first | apply Kd.V_alloc | apply Kd.V_drewN | apply Kd.V_drew)); exact Kd.V_mono HO_2.out (fun _ hk => ⟨⟨hk.1.1.1, ⟨hk.1.1.2.2, ⟨hk.1.2, hk.2⟩⟩⟩, hk.1.1.2.1⟩)) hg hat)
                            have n2_ := a_ (Kd.R_after (ok := (fun k_ => (w.heap.size ≤ k_) ∧ some k_ ≠ (v556 : Value).ownBlock ∧ some k_ ≠ (.slice Ao100 y547.length co100 : Value).ownBlock)) (by (with_reducible repeat (first | apply Kd.R_alloc | apply Kd.R_drewN | apply Kd.R_drew)); exact Kd.R_mono HO_25.out (fun _ hk => ⟨⟨hk.1.1.1, ⟨hk.1.2, hk.2⟩⟩, hk.1.1.2⟩)) hg hat)
                            have n3_ := a_ (Kd.R_after (ok := (fun k_ => (w.heap.size ≤ k_) ∧ some k_ ≠ (.slice Ao93 x25_6.length co93 : Value).ownBlock ∧ some k_ ≠ (.slice Ao100 y547.length co100 : Value).ownBlock)) (by (with_reducible repeat (first | apply Kd.R_alloc | apply Kd.R_drewN | apply Kd.R_drew)); exact Kd.R_mono HO557.out (fun _ hk => ⟨⟨hk.1.1.1.1, ⟨hk.1.2, hk.2⟩⟩, hk.1.1.2⟩)) hg hat)
                            have n4_ := a_ (Kd.R_after (ok := (fun k_ => (w.heap.size ≤ k_) ∧ some k_ ≠ (.slice Ao93 x25_6.length co93 : Value).ownBlock ∧ some k_ ≠ (v556 : Value).ownBlock)) (by (with_reducible repeat (first | apply Kd.R_alloc | apply Kd.R_drewN | apply Kd.R_drew)); exact Kd.R_mono HO549.out (fun _ hk => ⟨⟨hk.1.1.1.1, ⟨hk.1.2, hk.2⟩⟩, hk.1.1.2⟩)) hg hat)
                            have n5_ := a_ (hb)
                            have n6_ := a_ (ho)
                            clear HO_1
                            clear HO_2
                            clear HO_25
                            clear HO557
                            clear HO549
                            clear HB
                            clear HO_24
                            have HO_1 := n0_
                            have HO_2 := n1_
                            have HO_25 := n2_
                            have HO557 := n3_
                            have HO549 := n4_
                            have HB := n5_
                            have HO552 := n6_
                            clear n0_ n1_ n2_ n3_ n4_ n5_ n6_
                            clear ho hb hg hat
                            refine hK.out _ _ ⟨(by obtain ⟨a_, e_, h_⟩ := Kd.at_int (Kd.V_reads' HO_1.out).2.2 _ (of_eq_true p545) (of_eq_true q545); cases e_; exact h_), (by obtain ⟨a_, e_, h_⟩ := Kd.at_int (Kd.V_reads' HO_2.out).2.2 _ (of_eq_true p546) (of_eq_true q546); cases e_; exact h_), (by obtain ⟨a_, e_, h_⟩ := Kd.at_int (Kd.V_reads' HO_1.out).2.2 _ (of_eq_true p553) (of_eq_true q553); cases e_; exact h_), (by obtain ⟨a_, e_, h_⟩ := Kd.at_int (Kd.V_reads' HO_2.out).2.2 _ (of_eq_true p554) (of_eq_true q554); cases e_; exact h_)⟩ (fun hHeld => ?_)
                            clear hK K
                            refine norm_ (a' := ?_) ?_ ?_
                            rotate_left
                            ·show Act.put _ (some 214) _ = _
                             simp only [Act.put, List.setIfInBounds_toArray, List.set_cons_zero, List.set_cons_succ, i64_w, i32_w]
                             rfl
                            exact norm_ (by simp only [putAll, Act.put, List.setIfInBounds_toArray, List.set_cons_zero, List.set_cons_succ]) (hCont (.slice Ao100 y547.length co100, v551, v556) _ ⟨hHeld, (by (with_reducible repeat (first | apply Kd.R_alloc | apply Kd.R_drewN | apply Kd.R_drew)); exact Kd.R_mono HO549.out (fun _ hk => ⟨hk.1.1, ⟨hk.2, ⟨hk.1.2.2, hk.1.2.1⟩⟩⟩)), (by (with_reducible repeat (first | apply Kd.R_alloc | apply Kd.R_drewN | apply Kd.R_drew)); exact Kd.R_mono HO552.out (fun _ hk => ⟨hk.1, ⟨hk.2.2.2, ⟨hk.2.2.1, hk.2.1⟩⟩⟩)), (by (with_reducible repeat (first | apply Kd.R_alloc | apply Kd.R_drewN | apply Kd.R_drew)); exact Kd.R_mono HO557.out (fun _ hk => ⟨hk.1.1, ⟨hk.1.2.2, ⟨hk.2, hk.1.2.1⟩⟩⟩)), (by (with_reducible repeat (first | apply Kd.V_alloc | apply Kd.V_drewN | apply Kd.V_drew)); exact Kd.V_mono HO_1.out (fun _ hk => ⟨hk.1.1, ⟨hk.1.2.2.2, ⟨hk.2, ⟨hk.1.2.2.1, hk.1.2.1⟩⟩⟩⟩)), (by (with_reducible repeat (first | apply Kd.V_alloc | apply Kd.V_drewN | apply Kd.V_drew)); exact Kd.V_mono HO_2.out (fun _ hk => ⟨hk.1.1, ⟨hk.1.2.2.2, ⟨hk.2, ⟨hk.1.2.2.1, hk.1.2.1⟩⟩⟩⟩)), (by (with_reducible repeat (first | apply Kd.R_alloc | apply Kd.R_drewN | apply Kd.R_drew)); exact Kd.R_mono HO_25.out (fun _ hk => ⟨hk.1.1, ⟨hk.1.2.2, ⟨hk.2, hk.1.2.1⟩⟩⟩)), bl_⟩)
                          rintro ⟨v548, v551, v556⟩ w101 ⟨hS_, h0_, h1_, h2_, h3_, h4_, h5_, h6_⟩
                          have n0_ : Aside0 (Kd.R (Kd.int .i64) 3 w101 w.heap.size (fun k_ => (w.heap.size ≤ k_) ∧ some k_ ≠ (v551 : Value).ownBlock ∧ some k_ ≠ (v556 : Value).ownBlock ∧ some k_ ≠ (.slice Ao93 x25_6.length co93 : Value).ownBlock) v548 y547) := ⟨h0_⟩
                          have n1_ : Aside0 (Kd.R (Kd.int .i64) 3 w101 w.heap.size (fun k_ => (w.heap.size ≤ k_) ∧ some k_ ≠ (v548 : Value).ownBlock ∧ some k_ ≠ (v556 : Value).ownBlock ∧ some k_ ≠ (.slice Ao93 x25_6.length co93 : Value).ownBlock) v551 y550) := ⟨h1_⟩
                          have n2_ : Aside0 (Kd.R (Kd.int .i64) 3 w101 w.heap.size (fun k_ => (w.heap.size ≤ k_) ∧ some k_ ≠ (v548 : Value).ownBlock ∧ some k_ ≠ (v551 : Value).ownBlock ∧ some k_ ≠ (.slice Ao93 x25_6.length co93 : Value).ownBlock) v556 y555) := ⟨h2_⟩
                          have n3_ : Aside0 (Kd.V (Kd.int .i64) 3 w101 w.heap.size (fun k_ => ((P1_ k_ ∨ P2_ k_) ∨ w.heap.size ≤ k_) ∧ some k_ ≠ (v548 : Value).ownBlock ∧ some k_ ≠ (v551 : Value).ownBlock ∧ some k_ ≠ (v556 : Value).ownBlock ∧ some k_ ≠ (.slice Ao93 x25_6.length co93 : Value).ownBlock) (.slice (some ad545) l1.length c1) l1) := ⟨h3_⟩
                          have n4_ : Aside0 (Kd.V (Kd.int .i64) 3 w101 w.heap.size (fun k_ => ((P1_ k_ ∨ P2_ k_) ∨ w.heap.size ≤ k_) ∧ some k_ ≠ (v548 : Value).ownBlock ∧ some k_ ≠ (v551 : Value).ownBlock ∧ some k_ ≠ (v556 : Value).ownBlock ∧ some k_ ≠ (.slice Ao93 x25_6.length co93 : Value).ownBlock) (.slice (some ad546) l2.length c2) l2) := ⟨h4_⟩
                          have n5_ : Aside0 (Kd.R (Kd.int .i64) 3 w101 w.heap.size (fun k_ => (w.heap.size ≤ k_) ∧ some k_ ≠ (v548 : Value).ownBlock ∧ some k_ ≠ (v551 : Value).ownBlock ∧ some k_ ≠ (v556 : Value).ownBlock) (.slice Ao93 x25_6.length co93) x25_6) := ⟨h5_⟩
                          have n6_ : Aside0 (Below w.heap.size w w101) := ⟨h6_⟩
                          clear HO_1
                          clear HO_2
                          clear HO_24
                          clear HO_25
                          clear HB
                          clear h0_ h1_ h2_ h3_ h4_ h5_ h6_
                          have HO549 := n0_
                          have HO552 := n1_
                          have HO557 := n2_
                          have HO_1 := n3_
                          have HO_2 := n4_
                          have HO_25 := n5_
                          have HB := n6_
                          clear n0_ n1_ n2_ n3_ n4_ n5_ n6_
                          have hHeld : w101.cell? (ad545.add (x200_6).toNat) = some (.int .i64 (rd l1 x200_6)) ∧ w101.cell? (ad546.add (x200_6).toNat) = some (.int .i64 (rd l2 x200_6)) ∧ w101.cell? (ad545.add (x200_6).toNat) = some (.int .i64 (rd l1 x200_6)) ∧ w101.cell? (ad546.add (x200_6).toNat) = some (.int .i64 (rd l2 x200_6)) := hS_
                          obtain ⟨Ao103, co103, eo103⟩ := Kd.R_slice HO557.out
                          (first | subst eo103 | (injection eo103 with f1_ f2_ f3_; have f4_ := f1_.symm; have f5_ := f3_.symm; clear f1_ f2_ f3_; subst f4_; subst f5_))
                          refine norm_ (a' := ?_) ?_ ?_
                          rotate_left
                          ·simp only [putAll, Act.put, List.setIfInBounds_toArray, List.set_cons_zero, List.set_cons_succ]
                           rfl
                          refine one_ (i := 23) (N := some 226) #[true, true, true, true, true, true, true, true, true, true, true, true, true, true, true, true, true, true, true, true, true, true, true, true, false, false] rfl rfl (one_of HT_.out (by kernel_rfl)) (by decide) (fun K hK => ?_)
                          refine Kd.R_append_rows_step (Kd.int .i64) (w0 := w) w.heap.size (by rfl) (.tmp 215) (.tmp 225) 26 3 (.int .i64 0) 8 rfl Tryd.underlying26 info3 rfl (by decide) (by omega) (.slice Ao93 x25_6.length co93) x25_6 y555 _ _ _ (fun k_ => (w.heap.size ≤ k_) ∧ some k_ ≠ (v548 : Value).ownBlock ∧ some k_ ≠ (v551 : Value).ownBlock ∧ some k_ ≠ (.slice Ao103 y555.length co103 : Value).ownBlock) (fun _ => False) rfl rfl ?aO ?aR (fun _ _ h => h) (fun _ h => h.elim) ?aF ?aB ?aS ?aL ?_
                          (case aR => exact cl_ ((Kd.R_reads' HO557.out).2.2))
                          (case aB => exact bl_)
                          (case aF => exact (fun k_ hk => ⟨(Nat.le_trans (below_size bl_) hk), Kd.fresh' (Kd.R_lt (rl_ HO549.out)) k_ hk, Kd.fresh' (Kd.R_lt (rl_ HO552.out)) k_ hk, Kd.fresh' (Kd.R_lt (rl_ HO557.out)) k_ hk⟩))
                          (case aO => exact (rl_ HO_25.out))
                          (case aS => exact (below_size bl_))
                          (case aL => have := LMc91.out; omega)
                          intro v559 w102 ho hb hg hat
                          rw [← Ny558.out] at ho
                          have n0_ := a_ (Kd.V_afterv (ok := (fun k_ => ((P1_ k_ ∨ P2_ k_) ∨ w.heap.size ≤ k_) ∧ some k_ ≠ (v548 : Value).ownBlock ∧ some k_ ≠ (v551 : Value).ownBlock ∧ some k_ ≠ (.slice Ao103 y555.length co103 : Value).ownBlock)) (by (with_reducible repeat (first | apply Kd.V_alloc | apply Kd.V_drewN | apply Kd.V_drew)); exact Kd.V_mono HO_1.out (fun _ hk => ⟨⟨hk.1, ⟨hk.2.1, ⟨hk.2.2.1, hk.2.2.2.1⟩⟩⟩, hk.2.2.2.2⟩)) hg hat)
                          have n1_ := a_ (Kd.V_afterv (ok := (fun k_ => ((P1_ k_ ∨ P2_ k_) ∨ w.heap.size ≤ k_) ∧ some k_ ≠ (v548 : Value).ownBlock ∧ some k_ ≠ (v551 : Value).ownBlock ∧ some k_ ≠ (.slice Ao103 y555.length co103 : Value).ownBlock)) (by (with_reducible repeat (first | apply Kd.V_alloc | apply Kd.V_drewN | apply Kd.V_drew)); exact Kd.V_mono HO_2.out (fun _ hk => ⟨⟨hk.1, ⟨hk.2.1, ⟨hk.2.2.1, hk.2.2.2.1⟩⟩⟩, hk.2.2.2.2⟩)) hg hat)
                          have n2_ := a_ (Kd.R_after (ok := (fun k_ => (w.heap.size ≤ k_) ∧ some k_ ≠ (v551 : Value).ownBlock ∧ some k_ ≠ (.slice Ao103 y555.length co103 : Value).ownBlock)) (by (with_reducible repeat (first | apply Kd.R_alloc | apply Kd.R_drewN | apply Kd.R_drew)); exact Kd.R_mono HO549.out (fun _ hk => ⟨⟨hk.1, ⟨hk.2.1, hk.2.2.1⟩⟩, hk.2.2.2⟩)) hg hat)
                          have n3_ := a_ (Kd.R_after (ok := (fun k_ => (w.heap.size ≤ k_) ∧ some k_ ≠ (v548 : Value).ownBlock ∧ some k_ ≠ (.slice Ao103 y555.length co103 : Value).ownBlock)) (by (with_reducible repeat (first | apply Kd.R_alloc | apply Kd.R_drewN | apply Kd.R_drew)); exact Kd.R_mono HO552.out (fun _ hk => ⟨⟨hk.1, ⟨hk.2.1, hk.2.2.1⟩⟩, hk.2.2.2⟩)) hg hat)
                          have n4_ := a_ (Kd.R_after (ok := (fun k_ => (w.heap.size ≤ k_) ∧ some k_ ≠ (v548 : Value).ownBlock ∧ some k_ ≠ (v551 : Value).ownBlock)) (by (with_reducible repeat (first | apply Kd.R_alloc | apply Kd.R_drewN | apply Kd.R_drew)); exact Kd.R_mono HO557.out (fun _ hk => ⟨⟨hk.1, ⟨hk.2.1, hk.2.2.1⟩⟩, hk.2.2.2⟩)) hg hat)
                          have n5_ := a_ (hb)
                          have n6_ := a_ (ho)
                          clear HO_1
                          clear HO_2
                          clear HO549
                          clear HO552
                          clear HO557
                          clear HB
                          clear HO_25
                          have HO_1 := n0_
                          have HO_2 := n1_
                          have HO549 := n2_
                          have HO552 := n3_
                          have HO557 := n4_
                          have HB := n5_
                          have HO560 := n6_
                          clear n0_ n1_ n2_ n3_ n4_ n5_ n6_
                          clear ho hb hg hat
                          refine hK.out _ _ ⟨(by obtain ⟨a_, e_, h_⟩ := Kd.at_int (Kd.V_reads' HO_1.out).2.2 _ (of_eq_true p545) (of_eq_true q545); cases e_; exact h_), (by obtain ⟨a_, e_, h_⟩ := Kd.at_int (Kd.V_reads' HO_2.out).2.2 _ (of_eq_true p546) (of_eq_true q546); cases e_; exact h_), (by obtain ⟨a_, e_, h_⟩ := Kd.at_int (Kd.V_reads' HO_1.out).2.2 _ (of_eq_true p553) (of_eq_true q553); cases e_; exact h_), (by obtain ⟨a_, e_, h_⟩ := Kd.at_int (Kd.V_reads' HO_2.out).2.2 _ (of_eq_true p554) (of_eq_true q554); cases e_; exact h_)⟩ (fun hHeld => ?_)
                          clear hK K
                          refine norm_ (a' := ?_) ?_ ?_
                          rotate_left
                          ·show Act.put _ (some 226) _ = _
                           simp only [Act.put, List.setIfInBounds_toArray, List.set_cons_zero, List.set_cons_succ, i64_w, i32_w]
                           rfl
                          refine pz_ 24 24 HT_ ?_
                          refine pz_ 25 25 HT_ ?_
                          refine done_ (done_of HT_.out (by kernel_rfl)) ?_
                          try go_wp2
                          go_roundg k6
                          case measure => have := HJ7.out; have := HJ22.out; have := HJ33.out; have := HK4.out; have := HJ78.out; have := HK6.out; omega
                          case rel => exact ⟨(y550), (y558), (wrap64 (x200_6 + 1)), (by first | rfl | (simp; done) | (simp [*]; done)), H', ⟨by have := HJ7.out; have := HJ22.out; have := HJ33.out; have := HK4.out; have := HJ78.out; have := HK6.out; omega⟩, ⟨by (with_reducible repeat (first | apply Kd.V_alloc | apply Kd.V_drewN | apply Kd.V_drew)); exact Kd.V_mono HO_1.out (fun _ hk => ⟨hk.1.1, ⟨hk.1.2.2.1, hk.2⟩⟩)⟩, ⟨by (with_reducible repeat (first | apply Kd.V_alloc | apply Kd.V_drewN | apply Kd.V_drew)); exact Kd.V_mono HO_2.out (fun _ hk => ⟨hk.1.1, ⟨hk.1.2.2.1, hk.2⟩⟩)⟩, ⟨by (with_reducible repeat (first | apply Kd.R_alloc | apply Kd.R_drewN | apply Kd.R_drew)); exact Kd.R_mono HO552.out (fun _ hk => ⟨hk.1.1, hk.2⟩)⟩, ⟨by (with_reducible repeat (first | apply Kd.R_alloc | apply Kd.R_drewN | apply Kd.R_drew)); exact Kd.R_mono HO560.out (fun _ hk => ⟨hk.1, hk.2.2.1⟩)⟩, ⟨bl_⟩⟩
                         ·rw [if_neg c91] at H
                          exact absurd H (by simp)
                        ·rw [if_neg c89] at H
                         exact absurd H (by simp)
                       ·rw [if_neg c87] at H
                        exact absurd H (by simp)
                      ·rw [if_neg c86] at H
                       exact absurd H (by simp)
                     ·rw [if_neg c85] at H
                      exact absurd H (by simp)
                    ·rw [if_neg c84] at H
                     have c84b0 : decide (x200_6 < (l1.length : Int)) = false := decide_eq_false c84
                     clear c84
                     replace H := Option.bind_eq_some_iff.mp H
                     obtain ⟨t561, A1040, H⟩ := H
                     replace H : (if t561 = 0 then ((refill_CheckTimes.f l0 x25_6).bind fun t562 => (some (t562 == 0))) else (some false)) = some r := H
                     have A104 := a_ A1040
                     clear A1040
                     by_cases c105 : t561 = 0
                     ·rw [if_pos c105] at H
                      have c105b0 : (t561 == 0) = true := beq_iff_eq.mpr c105
                      have c105b1 : (t561 != 0) = false := bne_eq_false_iff_eq.mpr c105
                      clear c105
                      replace H := Option.bind_eq_some_iff.mp H
                      obtain ⟨t562, A1060, H⟩ := H
                      replace H : (some (t562 == 0)) = some r := H
                      have A106 := a_ A1060
                      clear A1060
                      obtain rfl := Option.some.inj H
                      obtain ⟨Ao107, co107, eo107⟩ := Kd.R_slice HO_24.out
                      subst eo107
                      go_wp2_with (first | ((with_reducible refine gate_callee (f := 33) rfl ?_); refine goesL_ (some 230) rfl rfl Tryd.func33 (by kernel_rfl) rfl #[.slice A0 l0.length c0, .slice Ao107 x24_6.length co107] rfl tm_ ?_; (with_reducible refine (refill_CheckTimes.calls _ _ l0 _ _ x24_6 t561 _ ?side1 ?side2 ?side3 ?side4 A104.out).mono ?_); (case side1 => exact cl_ (Kd.C_below HR0.out HB.out)); (case side2 => exact HC0.out); (case side3 => exact cl_ ((Kd.R_reads' HO_24.out).2.2)); (case side4 => exact (Kd.R_reads' HO_24.out).2.1); rintro e w108 ⟨rfl, hb⟩; refine ⟨_, rfl, ?_⟩; have n0_ := a_ (Kd.V_below (vl_ HO_1.out) hb); have n1_ := a_ (Kd.V_below (vl_ HO_2.out) hb); have n2_ := a_ (Kd.R_below (rl_ HO_24.out) hb); have n3_ := a_ (Kd.R_below (rl_ HO_25.out) hb); have n4_ := a_ (below_step bl_ hb); clear HO_1; clear HO_2; clear HO_24; clear HO_25; clear HB; have HO_1 := n0_; have HO_2 := n1_; have HO_24 := n2_; have HO_25 := n3_; have HB := n4_; clear n0_ n1_ n2_ n3_ n4_; (try clear hb); (try clear hb2); (try clear hk); (try clear hi); obtain ⟨Ao109, co109, eo109⟩ := Kd.R_slice HO_25.out; subst eo109) | (go_at_call 33; (with_reducible refine (refill_CheckTimes.calls _ _ l0 _ _ x25_6 t562 _ ?side1 ?side2 ?side3 ?side4 A106.out).mono ?_); (case side1 => exact cl_ (Kd.C_below HR0.out HB.out)); (case side2 => exact HC0.out); (case side3 => exact cl_ ((Kd.R_reads' HO_25.out).2.2)); (case side4 => exact (Kd.R_reads' HO_25.out).2.1); rintro e w110 ⟨rfl, hb⟩; have n0_ := a_ (Kd.V_below (vl_ HO_1.out) hb); have n1_ := a_ (Kd.V_below (vl_ HO_2.out) hb); have n2_ := a_ (Kd.R_below (rl_ HO_24.out) hb); have n3_ := a_ (Kd.R_below (rl_ HO_25.out) hb); have n4_ := a_ (below_step bl_ hb); clear HO_1; clear HO_2; clear HO_24; clear HO_25; clear HB; have HO_1 := n0_; have HO_2 := n1_; have HO_24 := n2_; have HO_25 := n3_; have HB := n4_; clear n0_ n1_ n2_ n3_ n4_; (try clear hb); (try clear hb2); (try clear hk); (try clear hi)))
                      go_ret
                      exact ⟨by first | rfl | (simp [errW_none, errW_some] <;> rfl) | (simp [*, errW_none, errW_some] <;> rfl), bl_⟩
                     ·rw [if_neg c105] at H
                      have c105b0 : (t561 == 0) = false := beq_eq_false_iff_ne.mpr c105
                      have c105b1 : (t561 != 0) = true := bne_iff_ne.mpr c105
                      exact absurd (H.trans (congrArg some hrt.out)) (by simp)
        ·replace c33 := Bool.eq_false_iff.mpr c33
         subst c33
         have H1 : (if t528 = 31 then (if t532 = 31 then ((refill_CheckClash.f kj22 l0 t523 t524).bind fun t537 => (if t537 = 0 then (if t535 = 0 then (some false) else (some (!(t536 == 0)))) else (some false))) else (some false)) else (some false)) = some r := by rw [if_neg (show ¬ (false = true) by decide)] at H; exact H
         clear H
         have H := H1
         clear H1
         by_cases c111 : t528 = 31
         ·rw [if_pos c111] at H
          have c111b0 : (t528 == 31) = true := beq_iff_eq.mpr c111
          have c111b1 : (t528 != 31) = false := bne_eq_false_iff_eq.mpr c111
          clear c111
          by_cases c112 : t532 = 31
          ·rw [if_pos c112] at H
           have c112b0 : (t532 == 31) = true := beq_iff_eq.mpr c112
           have c112b1 : (t532 != 31) = false := bne_eq_false_iff_eq.mpr c112
           clear c112
           replace H := Option.bind_eq_some_iff.mp H
           obtain ⟨t537, A1130, H⟩ := H
           replace H : (if t537 = 0 then (if t535 = 0 then (some false) else (some (!(t536 == 0)))) else (some false)) = some r := H
           have A113 := a_ A1130
           clear A1130
           by_cases c114 : t537 = 0
           ·rw [if_pos c114] at H
            have c114b0 : (t537 == 0) = true := beq_iff_eq.mpr c114
            have c114b1 : (t537 != 0) = false := bne_eq_false_iff_eq.mpr c114
            clear c114
            by_cases c115 : t535 = 0
            ·rw [if_pos c115] at H
             have c115b0 : (t535 == 0) = true := beq_iff_eq.mpr c115
             have c115b1 : (t535 != 0) = false := bne_eq_false_iff_eq.mpr c115
             clear c115
             exact absurd (H.trans (congrArg some hrt.out)) (by simp)
            ·rw [if_neg c115] at H
             have c115b0 : (t535 == 0) = false := beq_eq_false_iff_ne.mpr c115
             have c115b1 : (t535 != 0) = true := bne_iff_ne.mpr c115
             obtain rfl := Option.some.inj H
             go_wp2_with (first | ((with_reducible refine gate_callee (f := 33) rfl ?_); refine goesL_ (some 75) rfl rfl Tryd.func33 (by kernel_rfl) rfl #[.slice A0 l0.length c0, .slice A1 l1.length c1] rfl tm_ ?_; (with_reducible refine (refill_CheckTimes.calls _ _ l0 _ _ l1 t535 _ ?side1 ?side2 ?side3 ?side4 A31.out).mono ?_); (case side1 => exact cl_ (Kd.C_below HR0.out HB.out)); (case side2 => exact HC0.out); (case side3 => exact cl_ ((Kd.V_reads' HO_1.out).2.2)); (case side4 => exact (Kd.V_reads' HO_1.out).2.1); rintro e w116 ⟨rfl, hb⟩; refine ⟨_, rfl, ?_⟩; have n0_ := a_ (Kd.V_below (vl_ HO_1.out) hb); have n1_ := a_ (Kd.V_below (vl_ HO_2.out) hb); have n2_ := a_ (Kd.R_below (rl_ HO_17.out) hb); have n3_ := a_ (Kd.R_below (rl_ HO_19.out) hb); have n4_ := a_ (below_step bl_ hb); clear HO_1; clear HO_2; clear HO_17; clear HO_19; clear HB; have HO_1 := n0_; have HO_2 := n1_; have HO_17 := n2_; have HO_19 := n3_; have HB := n4_; clear n0_ n1_ n2_ n3_ n4_; (try clear hb); (try clear hb2); (try clear hk); (try clear hi)) | ((with_reducible refine gate_callee (f := 33) rfl ?_); refine goesL_ (some 79) rfl rfl Tryd.func33 (by kernel_rfl) rfl #[.slice A0 l0.length c0, .slice A2 l2.length c2] rfl tm_ ?_; (with_reducible refine (refill_CheckTimes.calls _ _ l0 _ _ l2 t536 _ ?side1 ?side2 ?side3 ?side4 A32.out).mono ?_); (case side1 => exact cl_ (Kd.C_below HR0.out HB.out)); (case side2 => exact HC0.out); (case side3 => exact cl_ ((Kd.V_reads' HO_2.out).2.2)); (case side4 => exact (Kd.V_reads' HO_2.out).2.1); rintro e w117 ⟨rfl, hb⟩; refine ⟨_, rfl, ?_⟩; have n0_ := a_ (Kd.V_below (vl_ HO_1.out) hb); have n1_ := a_ (Kd.V_below (vl_ HO_2.out) hb); have n2_ := a_ (Kd.R_below (rl_ HO_17.out) hb); have n3_ := a_ (Kd.R_below (rl_ HO_19.out) hb); have n4_ := a_ (below_step bl_ hb); clear HO_1; clear HO_2; clear HO_17; clear HO_19; clear HB; have HO_1 := n0_; have HO_2 := n1_; have HO_17 := n2_; have HO_19 := n3_; have HB := n4_; clear n0_ n1_ n2_ n3_ n4_; (try clear hb); (try clear hb2); (try clear hk); (try clear hi)) | (go_at_call 25; (with_reducible refine (refill_CheckClash.calls kj22 _ _ l0 t523 t524 t537 _ ?side1 ?side2 A113.out).mono ?_); (case side1 => exact cl_ (Kd.C_below HR0.out HB.out)); (case side2 => exact HC0.out); rintro e w118 ⟨rfl, hb⟩; have n0_ := a_ (Kd.V_below (vl_ HO_1.out) hb); have n1_ := a_ (Kd.V_below (vl_ HO_2.out) hb); have n2_ := a_ (Kd.R_below (rl_ HO_17.out) hb); have n3_ := a_ (Kd.R_below (rl_ HO_19.out) hb); have n4_ := a_ (below_step bl_ hb); clear HO_1; clear HO_2; clear HO_17; clear HO_19; clear HB; have HO_1 := n0_; have HO_2 := n1_; have HO_17 := n2_; have HO_19 := n3_; have HB := n4_; clear n0_ n1_ n2_ n3_ n4_; (try clear hb); (try clear hb2); (try clear hk); (try clear hi)))
             go_ret
             exact ⟨by first | rfl | (simp [errW_none, errW_some] <;> rfl) | (simp [*, errW_none, errW_some] <;> rfl), bl_⟩
           ·rw [if_neg c114] at H
            have c114b0 : (t537 == 0) = false := beq_eq_false_iff_ne.mpr c114
            have c114b1 : (t537 != 0) = true := bne_iff_ne.mpr c114
            exact absurd (H.trans (congrArg some hrt.out)) (by simp)
          ·rw [if_neg c112] at H
           have c112b0 : (t532 == 31) = false := beq_eq_false_iff_ne.mpr c112
           have c112b1 : (t532 != 31) = true := bne_iff_ne.mpr c112
           exact absurd (H.trans (congrArg some hrt.out)) (by simp)
         ·rw [if_neg c111] at H
          have c111b0 : (t528 == 31) = false := beq_eq_false_iff_ne.mpr c111
          have c111b1 : (t528 != 31) = true := bne_iff_ne.mpr c111
          exact absurd (H.trans (congrArg some hrt.out)) (by simp)
 ·replace c7 := Bool.eq_false_iff.mpr c7
  subst c7
  have H1 : (some false) = some r := by rw [if_neg (show ¬ (false = true) by decide)] at H; exact H
  clear H
  have H := H1
  clear H1
  exact absurd (H.trans (congrArg some hrt.out)) (by simp)

end Go.Proofs.YtgiihjcpgjpkcaaDoor.Q
