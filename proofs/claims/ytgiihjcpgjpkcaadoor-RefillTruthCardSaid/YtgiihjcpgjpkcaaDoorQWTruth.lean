/- Contracts of functions of the given program: each Go function as a plain Lean function (name.f) and the proof that its call answers just so, for every reading of its arguments. Written by the session's program wip/xprint.py out of the translation. -/
import Derived.Test.YtgiihjcpgjpkcaaDoorQ0
import Derived.Test.YtgiihjcpgjpkcaaDoorQG
import Derived.Test.YtgiihjcpgjpkcaaDoorQK1
import Derived.Test.YtgiihjcpgjpkcaaDoorQO
import Derived.Test.YtgiihjcpgjpkcaaDoorHCheck
import Derived.Test.YtgiihjcpgjpkcaaDoorHSane
namespace Go.Proofs.YtgiihjcpgjpkcaaDoor.Q
open Go.RowKit Go.Proofs.YtgiihjcpgjpkcaaDoorW.PrintWords Go.Proofs.YtgiihjcpgjpkcaaDoorW.PrintLast Go.Proofs.YtgiihjcpgjpkcaaDoorW.PrintMore
attribute [local go_sem] max2_int min2_int max_two min_two max_three min_three max_four min_four   -- for this text's walks alone
set_option linter.unusedVariables false
set_option linter.unusedSimpArgs false

/-! ### waterhourlaw04_RefillTruth: function 16 -/
theorem vcell_int {W : World} {base e c : Nat} {ok : Nat → Prop} {ad : Addr} {l : List Int} {i : Int} (h : Kd.V (Kd.int .i64) e W base ok (.slice (some ad) l.length c) l) (hi : (0 ≤ i) = True) (hl : (i < (l.length : Int)) = True) : W.cell? (ad.add i.toNat) = some (.int .i64 (rd l i)) := by
  obtain ⟨ad', e', h'⟩ := Kd.at_int (Kd.V_reads' h).2.2 i (of_eq_true hi) (of_eq_true hl)
  cases e'
  exact h'
mutual
def waterhourlaw04_RefillTruth.j0 : Nat → List Int → List Int → List Bool → Int → Int → Int → Int → Int → Bool → Option (Bool)
 | 0, _, _, _, _, _, _, _, _, _ => none
 | k + 1, x0, x1, x2, x3, x4, x5, x6, x7, x51 => if x51 = true then (some true) else ((slices_Concat_int_int.f k (([x0, x1] : List (List Int)))).bind fun t851 => (waterhourlaw04_RefillTruth.l0 k x0 x1 x2 x3 x4 x5 x6 x7 t851 (t851.length : Int) 0))
def waterhourlaw04_RefillTruth.l0 : Nat → List Int → List Int → List Bool → Int → Int → Int → Int → Int → List Int → Int → Int → Option (Bool)
 | 0, _, _, _, _, _, _, _, _, _, _, _ => none
 | k + 1, x0, x1, x2, x3, x4, x5, x6, x7, x55, x56, x57 => if x57 < x56 then (if 0 ≤ x57 then (if x57 < (x55.length : Int) then (if (rd x55 x57) < 0 then (some true) else (if (rd x55 x57) > 100000 then (some true) else (waterhourlaw04_RefillTruth.l0 k x0 x1 x2 x3 x4 x5 x6 x7 x55 x56 (wrap64 (x57 + 1))))) else (none)) else (none)) else (waterhourlaw04_RefillTruth.l1 k x1 x2 x3 x4 x5 x6 x7 ([] : List (S51)) ([] : List Int) 0 x0 (x0.length : Int) 0)
def waterhourlaw04_RefillTruth.l1 : Nat → List Int → List Bool → Int → Int → Int → Int → Int → List (S51) → List Int → Int → List Int → Int → Int → Option (Bool)
 | 0, _, _, _, _, _, _, _, _, _, _, _, _, _ => none
 | k + 1, x1, x2, x3, x4, x5, x6, x7, x19, x20, x21, x68, x69, x70 => if x70 < x69 then (if 0 ≤ x70 then (if x70 < (x68.length : Int) then (if 0 ≤ (wrap64 (4 * x70)) then (if (wrap64 (4 * x70)) < (x1.length : Int) then (if 0 ≤ (wrap64 ((wrap64 (4 * x70)) + 1)) then (if (wrap64 ((wrap64 (4 * x70)) + 1)) < (x1.length : Int) then (if x70 < (x2.length : Int) then (if rdOf false x2 x70 = true then (if 0 ≤ (wrap64 ((wrap64 (4 * x70)) + 2)) then (if (wrap64 ((wrap64 (4 * x70)) + 2)) < (x1.length : Int) then (if 0 ≤ (wrap64 ((wrap64 (4 * x70)) + 3)) then (if (wrap64 ((wrap64 (4 * x70)) + 3)) < (x1.length : Int) then (if x19.length < 4398046511104 then (if x20.length < 17592186044416 then (waterhourlaw04_RefillTruth.l1 k x1 x2 x3 x4 x5 x6 x7 (x19 ++ [(⟨(⟨mx (wrap64 ((rd x68 x70) - (rd x1 (wrap64 (4 * x70))))) 0, wrap64 ((rd x68 x70) + (rd x1 (wrap64 ((wrap64 (4 * x70)) + 1))))⟩ : S49), (⟨mx (wrap64 ((wrap64 (x21 + (rd x68 x70))) - (rd x1 (wrap64 ((wrap64 (4 * x70)) + 2))))) 0, wrap64 ((wrap64 (x21 + (rd x68 x70))) + (rd x1 (wrap64 ((wrap64 (4 * x70)) + 3))))⟩ : S49)⟩ : S51)]) (x20 ++ [wrap64 (x21 + (rd x68 x70))]) (wrap64 (x21 + (rd x68 x70))) x68 x69 (wrap64 (x70 + 1))) else (none)) else (none)) else (none)) else (none)) else (none)) else (none)) else (if x19.length < 4398046511104 then (if x20.length < 17592186044416 then (waterhourlaw04_RefillTruth.l1 k x1 x2 x3 x4 x5 x6 x7 (x19 ++ [(⟨(⟨mx (wrap64 ((rd x68 x70) - (rd x1 (wrap64 (4 * x70))))) 0, wrap64 ((rd x68 x70) + (rd x1 (wrap64 ((wrap64 (4 * x70)) + 1))))⟩ : S49), (⟨1, 0⟩ : S49)⟩ : S51)]) (x20 ++ [wrap64 (x21 + (rd x68 x70))]) (wrap64 (x21 + (rd x68 x70))) x68 x69 (wrap64 (x70 + 1))) else (none)) else (none))) else (none)) else (none)) else (none)) else (none)) else (none)) else (none)) else (none)) else ((refill_CheckTimes.f x19 x20).bind fun t874 => (if t874 = 0 then ((refill_CheckClash.f k x19 x6 x7).bind fun t875 => (waterhourlaw04_RefillTruth.j3 k x3 x4 x5 x19 x20 (t875 == 0))) else (waterhourlaw04_RefillTruth.j3 k x3 x4 x5 x19 x20 true)))
def waterhourlaw04_RefillTruth.j3 : Nat → Int → Int → Int → List (S51) → List Int → Bool → Option (Bool)
 | 0, _, _, _, _, _, _ => none
 | k + 1, x3, x4, x5, x19, x20, x139 => if x139 = true then (some false) else (if x3 < 0 then (waterhourlaw04_RefillTruth.j4 k x3 x4 x5 x19 x20 true) else (waterhourlaw04_RefillTruth.j4 k x3 x4 x5 x19 x20 (decide (x3 ≥ (x20.length : Int)))))
def waterhourlaw04_RefillTruth.j4 : Nat → Int → Int → Int → List (S51) → List Int → Bool → Option (Bool)
 | 0, _, _, _, _, _, _ => none
 | k + 1, x3, x4, x5, x19, x20, x147 => if x147 = true then (some true) else ((refill_Time.f k x19 x3).bind fun bt876 => (if bt876.2.2 = 0 then (if 0 ≤ x3 then (if x3 < (x20.length : Int) then (if (rd x20 x3) < bt876.1 then (waterhourlaw04_RefillTruth.j5 k x3 x4 x5 x19 x20 true) else (waterhourlaw04_RefillTruth.j5 k x3 x4 x5 x19 x20 (decide ((rd x20 x3) > bt876.2.1)))) else (none)) else (none)) else (waterhourlaw04_RefillTruth.j5 k x3 x4 x5 x19 x20 true)))
def waterhourlaw04_RefillTruth.j5 : Nat → Int → Int → Int → List (S51) → List Int → Bool → Option (Bool)
 | 0, _, _, _, _, _, _ => none
 | k + 1, x3, x4, x5, x19, x20, x173 => if x173 = true then (some false) else ((refill_CheckProof.f k x19 x3 false x5 x4).bind fun t882 => (if t882 = 0 then (if 0 ≤ x3 then (if x3 < (x20.length : Int) then (if (rd x20 x3) < x5 then (some false) else ((refill_CheckProof.f k x19 x3 true x5 x4).bind fun t884 => (if t884 = 0 then (some (decide ((rd x20 x3) ≤ x5))) else (some true)))) else (none)) else (none)) else ((refill_CheckProof.f k x19 x3 true x5 x4).bind fun t886 => (if t886 = 0 then (if 0 ≤ x3 then (if x3 < (x20.length : Int) then (some (decide ((rd x20 x3) ≤ x5))) else (none)) else (none)) else (some true)))))
end
def waterhourlaw04_RefillTruth.f (k : Nat) (l0 : List Int) (l1 : List Int) (l2 : List Bool) (a3 : Int) (a4 : Int) (a5 : Int) (a6 : Int) (a7 : Int) : Option (Bool) := (law_sane.f).bind fun t847 => (if t847 = true then (if (l0.length : Int) < 1 then (waterhourlaw04_RefillTruth.j0 k l0 l1 l2 a3 a4 a5 a6 a7 true) else (if (l0.length : Int) > 32 then (waterhourlaw04_RefillTruth.j0 k l0 l1 l2 a3 a4 a5 a6 a7 true) else (if (l1.length : Int) = (wrap64 (4 * (l0.length : Int))) then (waterhourlaw04_RefillTruth.j0 k l0 l1 l2 a3 a4 a5 a6 a7 ((l2.length : Int) != (l0.length : Int))) else (waterhourlaw04_RefillTruth.j0 k l0 l1 l2 a3 a4 a5 a6 a7 true)))) else (some false))
theorem waterhourlaw04_RefillTruth.mono_l : ∀ k, (∀ y0 y1 y2 y3 y4 y5 y6 y7 y8, LeO (waterhourlaw04_RefillTruth.j0 k y0 y1 y2 y3 y4 y5 y6 y7 y8) (waterhourlaw04_RefillTruth.j0 (k + 1) y0 y1 y2 y3 y4 y5 y6 y7 y8)) ∧ (∀ y0 y1 y2 y3 y4 y5 y6 y7 y8 y9 y10, LeO (waterhourlaw04_RefillTruth.l0 k y0 y1 y2 y3 y4 y5 y6 y7 y8 y9 y10) (waterhourlaw04_RefillTruth.l0 (k + 1) y0 y1 y2 y3 y4 y5 y6 y7 y8 y9 y10)) ∧ (∀ y0 y1 y2 y3 y4 y5 y6 y7 y8 y9 y10 y11 y12, LeO (waterhourlaw04_RefillTruth.l1 k y0 y1 y2 y3 y4 y5 y6 y7 y8 y9 y10 y11 y12) (waterhourlaw04_RefillTruth.l1 (k + 1) y0 y1 y2 y3 y4 y5 y6 y7 y8 y9 y10 y11 y12)) ∧ (∀ y0 y1 y2 y3 y4 y5, LeO (waterhourlaw04_RefillTruth.j3 k y0 y1 y2 y3 y4 y5) (waterhourlaw04_RefillTruth.j3 (k + 1) y0 y1 y2 y3 y4 y5)) ∧ (∀ y0 y1 y2 y3 y4 y5, LeO (waterhourlaw04_RefillTruth.j4 k y0 y1 y2 y3 y4 y5) (waterhourlaw04_RefillTruth.j4 (k + 1) y0 y1 y2 y3 y4 y5)) ∧ (∀ y0 y1 y2 y3 y4 y5, LeO (waterhourlaw04_RefillTruth.j5 k y0 y1 y2 y3 y4 y5) (waterhourlaw04_RefillTruth.j5 (k + 1) y0 y1 y2 y3 y4 y5))
 | 0 => ⟨fun _ _ _ _ _ _ _ _ _ r h => by simp [waterhourlaw04_RefillTruth.j0] at h, fun _ _ _ _ _ _ _ _ _ _ _ r h => by simp [waterhourlaw04_RefillTruth.l0] at h, fun _ _ _ _ _ _ _ _ _ _ _ _ _ r h => by simp [waterhourlaw04_RefillTruth.l1] at h, fun _ _ _ _ _ _ r h => by simp [waterhourlaw04_RefillTruth.j3] at h, fun _ _ _ _ _ _ r h => by simp [waterhourlaw04_RefillTruth.j4] at h, fun _ _ _ _ _ _ r h => by simp [waterhourlaw04_RefillTruth.j5] at h⟩
 | k + 1 => by
  obtain ⟨ih0, ih1, ih2, ih3, ih4, ih5⟩ := waterhourlaw04_RefillTruth.mono_l k
  refine ⟨?_, ?_, ?_, ?_, ?_, ?_⟩
  ·intro y0 y1 y2 y3 y4 y5 y6 y7 y8
   unfold waterhourlaw04_RefillTruth.j0
   repeat' first
   | (with_reducible exact ih0 _ _ _ _ _ _ _ _ _)
   | (with_reducible exact ih1 _ _ _ _ _ _ _ _ _ _ _)
   | (with_reducible exact ih2 _ _ _ _ _ _ _ _ _ _ _ _ _)
   | (with_reducible exact ih3 _ _ _ _ _ _)
   | (with_reducible exact ih4 _ _ _ _ _ _)
   | (with_reducible exact ih5 _ _ _ _ _ _)
   | (with_reducible exact refill_CheckClash.mono _ _ _ _)
   | (with_reducible exact refill_CheckProof.mono _ _ _ _ _ _)
   | (with_reducible exact refill_Time.mono _ _ _)
   | (with_reducible exact slices_Concat_int_int.mono _ _)
   | (with_reducible exact LeO.refl _)
   | (with_reducible exact LeO.none _)
   | (with_reducible refine LeO.ite ?_ ?_)
   | (with_reducible refine LeO.bind ?_ (fun _ => ?_))
   | exact ih0 _ _ _ _ _ _ _ _ _
   | exact ih1 _ _ _ _ _ _ _ _ _ _ _
   | exact ih2 _ _ _ _ _ _ _ _ _ _ _ _ _
   | exact ih3 _ _ _ _ _ _
   | exact ih4 _ _ _ _ _ _
   | exact ih5 _ _ _ _ _ _
   | exact refill_CheckClash.mono _ _ _ _
   | exact refill_CheckProof.mono _ _ _ _ _ _
   | exact refill_Time.mono _ _ _
   | exact slices_Concat_int_int.mono _ _
   | exact LeO.none _
   | refine LeO.ite ?_ ?_
   | refine LeO.bind ?_ (fun _ => ?_)
  ·intro y0 y1 y2 y3 y4 y5 y6 y7 y8 y9 y10
   unfold waterhourlaw04_RefillTruth.l0
   repeat' first
   | (with_reducible exact ih0 _ _ _ _ _ _ _ _ _)
   | (with_reducible exact ih1 _ _ _ _ _ _ _ _ _ _ _)
   | (with_reducible exact ih2 _ _ _ _ _ _ _ _ _ _ _ _ _)
   | (with_reducible exact ih3 _ _ _ _ _ _)
   | (with_reducible exact ih4 _ _ _ _ _ _)
   | (with_reducible exact ih5 _ _ _ _ _ _)
   | (with_reducible exact refill_CheckClash.mono _ _ _ _)
   | (with_reducible exact refill_CheckProof.mono _ _ _ _ _ _)
   | (with_reducible exact refill_Time.mono _ _ _)
   | (with_reducible exact slices_Concat_int_int.mono _ _)
   | (with_reducible exact LeO.refl _)
   | (with_reducible exact LeO.none _)
   | (with_reducible refine LeO.ite ?_ ?_)
   | (with_reducible refine LeO.bind ?_ (fun _ => ?_))
   | exact ih0 _ _ _ _ _ _ _ _ _
   | exact ih1 _ _ _ _ _ _ _ _ _ _ _
   | exact ih2 _ _ _ _ _ _ _ _ _ _ _ _ _
   | exact ih3 _ _ _ _ _ _
   | exact ih4 _ _ _ _ _ _
   | exact ih5 _ _ _ _ _ _
   | exact refill_CheckClash.mono _ _ _ _
   | exact refill_CheckProof.mono _ _ _ _ _ _
   | exact refill_Time.mono _ _ _
   | exact slices_Concat_int_int.mono _ _
   | exact LeO.none _
   | refine LeO.ite ?_ ?_
   | refine LeO.bind ?_ (fun _ => ?_)
  ·intro y0 y1 y2 y3 y4 y5 y6 y7 y8 y9 y10 y11 y12
   unfold waterhourlaw04_RefillTruth.l1
   repeat' first
   | (with_reducible exact ih0 _ _ _ _ _ _ _ _ _)
   | (with_reducible exact ih1 _ _ _ _ _ _ _ _ _ _ _)
   | (with_reducible exact ih2 _ _ _ _ _ _ _ _ _ _ _ _ _)
   | (with_reducible exact ih3 _ _ _ _ _ _)
   | (with_reducible exact ih4 _ _ _ _ _ _)
   | (with_reducible exact ih5 _ _ _ _ _ _)
   | (with_reducible exact refill_CheckClash.mono _ _ _ _)
   | (with_reducible exact refill_CheckProof.mono _ _ _ _ _ _)
   | (with_reducible exact refill_Time.mono _ _ _)
   | (with_reducible exact slices_Concat_int_int.mono _ _)
   | (with_reducible exact LeO.refl _)
   | (with_reducible exact LeO.none _)
   | (with_reducible refine LeO.ite ?_ ?_)
   | (with_reducible refine LeO.bind ?_ (fun _ => ?_))
   | exact ih0 _ _ _ _ _ _ _ _ _
   | exact ih1 _ _ _ _ _ _ _ _ _ _ _
   | exact ih2 _ _ _ _ _ _ _ _ _ _ _ _ _
   | exact ih3 _ _ _ _ _ _
   | exact ih4 _ _ _ _ _ _
   | exact ih5 _ _ _ _ _ _
   | exact refill_CheckClash.mono _ _ _ _
   | exact refill_CheckProof.mono _ _ _ _ _ _
   | exact refill_Time.mono _ _ _
   | exact slices_Concat_int_int.mono _ _
   | exact LeO.none _
   | refine LeO.ite ?_ ?_
   | refine LeO.bind ?_ (fun _ => ?_)
  ·intro y0 y1 y2 y3 y4 y5
   unfold waterhourlaw04_RefillTruth.j3
   repeat' first
   | (with_reducible exact ih0 _ _ _ _ _ _ _ _ _)
   | (with_reducible exact ih1 _ _ _ _ _ _ _ _ _ _ _)
   | (with_reducible exact ih2 _ _ _ _ _ _ _ _ _ _ _ _ _)
   | (with_reducible exact ih3 _ _ _ _ _ _)
   | (with_reducible exact ih4 _ _ _ _ _ _)
   | (with_reducible exact ih5 _ _ _ _ _ _)
   | (with_reducible exact refill_CheckClash.mono _ _ _ _)
   | (with_reducible exact refill_CheckProof.mono _ _ _ _ _ _)
   | (with_reducible exact refill_Time.mono _ _ _)
   | (with_reducible exact slices_Concat_int_int.mono _ _)
   | (with_reducible exact LeO.refl _)
   | (with_reducible exact LeO.none _)
   | (with_reducible refine LeO.ite ?_ ?_)
   | (with_reducible refine LeO.bind ?_ (fun _ => ?_))
   | exact ih0 _ _ _ _ _ _ _ _ _
   | exact ih1 _ _ _ _ _ _ _ _ _ _ _
   | exact ih2 _ _ _ _ _ _ _ _ _ _ _ _ _
   | exact ih3 _ _ _ _ _ _
   | exact ih4 _ _ _ _ _ _
   | exact ih5 _ _ _ _ _ _
   | exact refill_CheckClash.mono _ _ _ _
   | exact refill_CheckProof.mono _ _ _ _ _ _
   | exact refill_Time.mono _ _ _
   | exact slices_Concat_int_int.mono _ _
   | exact LeO.none _
   | refine LeO.ite ?_ ?_
   | refine LeO.bind ?_ (fun _ => ?_)
  ·intro y0 y1 y2 y3 y4 y5
   unfold waterhourlaw04_RefillTruth.j4
   repeat' first
   | (with_reducible exact ih0 _ _ _ _ _ _ _ _ _)
   | (with_reducible exact ih1 _ _ _ _ _ _ _ _ _ _ _)
   | (with_reducible exact ih2 _ _ _ _ _ _ _ _ _ _ _ _ _)
   | (with_reducible exact ih3 _ _ _ _ _ _)
   | (with_reducible exact ih4 _ _ _ _ _ _)
   | (with_reducible exact ih5 _ _ _ _ _ _)
   | (with_reducible exact refill_CheckClash.mono _ _ _ _)
   | (with_reducible exact refill_CheckProof.mono _ _ _ _ _ _)
   | (with_reducible exact refill_Time.mono _ _ _)
   | (with_reducible exact slices_Concat_int_int.mono _ _)
   | (with_reducible exact LeO.refl _)
   | (with_reducible exact LeO.none _)
   | (with_reducible refine LeO.ite ?_ ?_)
   | (with_reducible refine LeO.bind ?_ (fun _ => ?_))
   | exact ih0 _ _ _ _ _ _ _ _ _
   | exact ih1 _ _ _ _ _ _ _ _ _ _ _
   | exact ih2 _ _ _ _ _ _ _ _ _ _ _ _ _
   | exact ih3 _ _ _ _ _ _
   | exact ih4 _ _ _ _ _ _
   | exact ih5 _ _ _ _ _ _
   | exact refill_CheckClash.mono _ _ _ _
   | exact refill_CheckProof.mono _ _ _ _ _ _
   | exact refill_Time.mono _ _ _
   | exact slices_Concat_int_int.mono _ _
   | exact LeO.none _
   | refine LeO.ite ?_ ?_
   | refine LeO.bind ?_ (fun _ => ?_)
  ·intro y0 y1 y2 y3 y4 y5
   unfold waterhourlaw04_RefillTruth.j5
   repeat' first
   | (with_reducible exact ih0 _ _ _ _ _ _ _ _ _)
   | (with_reducible exact ih1 _ _ _ _ _ _ _ _ _ _ _)
   | (with_reducible exact ih2 _ _ _ _ _ _ _ _ _ _ _ _ _)
   | (with_reducible exact ih3 _ _ _ _ _ _)
   | (with_reducible exact ih4 _ _ _ _ _ _)
   | (with_reducible exact ih5 _ _ _ _ _ _)
   | (with_reducible exact refill_CheckClash.mono _ _ _ _)
   | (with_reducible exact refill_CheckProof.mono _ _ _ _ _ _)
   | (with_reducible exact refill_Time.mono _ _ _)
   | (with_reducible exact slices_Concat_int_int.mono _ _)
   | (with_reducible exact LeO.refl _)
   | (with_reducible exact LeO.none _)
   | (with_reducible refine LeO.ite ?_ ?_)
   | (with_reducible refine LeO.bind ?_ (fun _ => ?_))
   | exact ih0 _ _ _ _ _ _ _ _ _
   | exact ih1 _ _ _ _ _ _ _ _ _ _ _
   | exact ih2 _ _ _ _ _ _ _ _ _ _ _ _ _
   | exact ih3 _ _ _ _ _ _
   | exact ih4 _ _ _ _ _ _
   | exact ih5 _ _ _ _ _ _
   | exact refill_CheckClash.mono _ _ _ _
   | exact refill_CheckProof.mono _ _ _ _ _ _
   | exact refill_Time.mono _ _ _
   | exact slices_Concat_int_int.mono _ _
   | exact LeO.none _
   | refine LeO.ite ?_ ?_
   | refine LeO.bind ?_ (fun _ => ?_)
theorem waterhourlaw04_RefillTruth.mono : ∀ a0 a1 a2 a3 a4 a5 a6 a7 k, LeO (waterhourlaw04_RefillTruth.f k a0 a1 a2 a3 a4 a5 a6 a7) (waterhourlaw04_RefillTruth.f (k + 1) a0 a1 a2 a3 a4 a5 a6 a7) := by
 intro a0 a1 a2 a3 a4 a5 a6 a7 k
 obtain ⟨ih0, ih1, ih2, ih3, ih4, ih5⟩ := waterhourlaw04_RefillTruth.mono_l k
 unfold waterhourlaw04_RefillTruth.f
 repeat' first
   | (with_reducible exact ih0 _ _ _ _ _ _ _ _ _)
   | (with_reducible exact ih1 _ _ _ _ _ _ _ _ _ _ _)
   | (with_reducible exact ih2 _ _ _ _ _ _ _ _ _ _ _ _ _)
   | (with_reducible exact ih3 _ _ _ _ _ _)
   | (with_reducible exact ih4 _ _ _ _ _ _)
   | (with_reducible exact ih5 _ _ _ _ _ _)
   | (with_reducible exact refill_CheckClash.mono _ _ _ _)
   | (with_reducible exact refill_CheckProof.mono _ _ _ _ _ _)
   | (with_reducible exact refill_Time.mono _ _ _)
   | (with_reducible exact slices_Concat_int_int.mono _ _)
   | (with_reducible exact LeO.refl _)
   | (with_reducible exact LeO.none _)
   | (with_reducible refine LeO.ite ?_ ?_)
   | (with_reducible refine LeO.bind ?_ (fun _ => ?_))
   | exact ih0 _ _ _ _ _ _ _ _ _
   | exact ih1 _ _ _ _ _ _ _ _ _ _ _
   | exact ih2 _ _ _ _ _ _ _ _ _ _ _ _ _
   | exact ih3 _ _ _ _ _ _
   | exact ih4 _ _ _ _ _ _
   | exact ih5 _ _ _ _ _ _
   | exact refill_CheckClash.mono _ _ _ _
   | exact refill_CheckProof.mono _ _ _ _ _ _
   | exact refill_Time.mono _ _ _
   | exact slices_Concat_int_int.mono _ _
   | exact LeO.none _
   | refine LeO.ite ?_ ?_
   | refine LeO.bind ?_ (fun _ => ?_)
def waterhourlaw04_RefillTruth.T18 : Bool × List (List Nat × List Nat) := (true, [([], []), ([], []), ([], []), ([2], [2]), ([1, 3], [1, 3]), ([4], [4]), ([0, 5], [0, 5]), ([6], [6]), ([], []), ([], []), ([], []), ([10], [10]), ([11], [11]), ([9, 12], [9, 12]), ([13], [13]), ([8, 14], [8, 14]), ([7, 15], [7, 15]), ([], []), ([16, 17], [16, 17]), ([], []), ([19, 18, 0, 1, 2, 3, 4, 5, 6, 7, 8, 9, 10, 11, 12, 13, 14, 15, 16, 17, 18, 19], [18, 19])])
def waterhourlaw04_RefillTruth.B18 : List Nat := [0, 0, 0, 4, 14, 30, 63, 127, 0, 0, 0, 1024, 3072, 7680, 15872, 32512, 65535, 0, 262143, 0, 1048575]
theorem waterhourlaw04_RefillTruth.tab18 : rtab .any (opsOf Tryd.f16 18) = waterhourlaw04_RefillTruth.T18 := by kernel_rfl
theorem waterhourlaw04_RefillTruth.bits18 : waitsOk waterhourlaw04_RefillTruth.T18.2 waterhourlaw04_RefillTruth.B18 = true := by kernel_rfl
def waterhourlaw04_RefillTruth.T20 : Bool × List (List Nat × List Nat) := (true, [([], []), ([], []), ([], []), ([2], [2]), ([3], [3]), ([1, 4], [1, 4]), ([5], [5]), ([0, 6], [0, 6]), ([7], [7]), ([], []), ([], []), ([], []), ([11], [11]), ([12], [12]), ([10, 13], [10, 13]), ([14], [14]), ([9, 15], [9, 15]), ([8, 16], [8, 16]), ([0, 1, 2, 3, 4, 5, 6, 7, 8, 9, 10, 11, 12, 13, 14, 15, 16, 17], []), ([18, 17, 0, 1, 2, 3, 4, 5, 6, 7, 8, 9, 10, 11, 12, 13, 14, 15, 16, 17], [17, 18])])
def waterhourlaw04_RefillTruth.B20 : List Nat := [0, 0, 0, 4, 12, 30, 62, 127, 255, 0, 0, 0, 2048, 6144, 15360, 31744, 65024, 131071, 262143, 524287]
theorem waterhourlaw04_RefillTruth.tab20 : rtab .any (opsOf Tryd.f16 20) = waterhourlaw04_RefillTruth.T20 := by kernel_rfl
theorem waterhourlaw04_RefillTruth.bits20 : waitsOk waterhourlaw04_RefillTruth.T20.2 waterhourlaw04_RefillTruth.B20 = true := by kernel_rfl
def waterhourlaw04_RefillTruth.T28 : Bool × List (List Nat × List Nat) := (true, [([], []), ([0], [0]), ([1], [1]), ([2], [2]), ([2], [2]), ([3, 4, 2], [2, 3, 4]), ([5, 2], [2, 5]), ([2], [2]), ([7, 2], [2, 7]), ([6, 8, 2], [2, 6, 8]), ([2, 9], [2, 9]), ([10, 2], [10]), ([11], [11]), ([11], [11]), ([12, 13, 11], [11, 12, 13]), ([14, 11], [11, 14]), ([11], [11]), ([16, 11], [11, 16]), ([15, 17, 11], [11, 15, 17]), ([11, 18], [11, 18])])
def waterhourlaw04_RefillTruth.B28 : List Nat := [0, 1, 3, 7, 7, 31, 63, 7, 135, 511, 1023, 2047, 4095, 4095, 16383, 32767, 4095, 69631, 262143, 524287]
theorem waterhourlaw04_RefillTruth.tab28 : rtab .any (opsOf Tryd.f16 28) = waterhourlaw04_RefillTruth.T28 := by kernel_rfl
theorem waterhourlaw04_RefillTruth.bits28 : waitsOk waterhourlaw04_RefillTruth.T28.2 waterhourlaw04_RefillTruth.B28 = true := by kernel_rfl
set_option maxHeartbeats 8000000 in
set_option maxRecDepth 100000 in
theorem waterhourlaw04_RefillTruth.calls (k : Nat) (P0_ : Nat → Prop) (A0 : Option Addr) (c0 : Nat) (l0 : List Int) (P1_ : Nat → Prop) (A1 : Option Addr) (c1 : Nat) (l1 : List Int) (A2 : Option Addr) (c2 : Nat) (l2 : List Bool) (a3 : Int) (a4 : Int) (a5 : Int) (a6 : Int) (a7 : Int) (r : Bool) (w : World) (hs0 : Kd.V (Kd.int .i64) 3 w w.heap.size (fun k_ => P0_ k_) (.slice A0 l0.length c0) l0) (hs1 : Kd.V (Kd.int .i64) 3 w w.heap.size (fun k_ => P1_ k_) (.slice A1 l1.length c1) l1) (hr2 : Kd.C Kd.bool w A2 l2.length l2) (hc2 : l2.length ≤ c2) (ht : TabB w) (hrt : Aside0 (r = true)) (h : waterhourlaw04_RefillTruth.f k l0 l1 l2 a3 a4 a5 a6 a7 = some r) :
  Calls Tryd.prog 16 #[.slice A0 l0.length c0, .slice A1 l1.length c1, .slice A2 l2.length c2, .int .i64 a3, .int .i64 a4, .int .i64 a5, .int .i64 a6, .int .i64 a7] w fun e w' => e = .returned (.bool r) ∧ Below w.heap.size w w' := by
 have hu49 := Tryd.underlying49
 have hu51 := Tryd.underlying51
 have HO0 := a_ (show Kd.V (Kd.int .i64) 3 w w.heap.size (fun k_ => ((P0_ k_ ∨ P1_ k_) ∨ w.heap.size ≤ k_)) (.slice A0 l0.length c0) l0 from Kd.V_mono hs0 (fun k_ hk => .inl (.inl hk)))
 have HO1 := a_ (show Kd.V (Kd.int .i64) 3 w w.heap.size (fun k_ => ((P0_ k_ ∨ P1_ k_) ∨ w.heap.size ≤ k_)) (.slice A1 l1.length c1) l1 from Kd.V_mono hs1 (fun k_ hk => .inl (.inr hk)))
 have HR2 := a_ hr2
 have HC2 := a_ hc2
 clear hr2 hc2
 have HT := a_ ht
 clear ht
 have HB := a_ (Below.refl w.heap.size w)
 have H : ((law_sane.f).bind fun t847 => (if t847 = true then (if (l0.length : Int) < 1 then (waterhourlaw04_RefillTruth.j0 k l0 l1 l2 a3 a4 a5 a6 a7 true) else (if (l0.length : Int) > 32 then (waterhourlaw04_RefillTruth.j0 k l0 l1 l2 a3 a4 a5 a6 a7 true) else (if (l1.length : Int) = (wrap64 (4 * (l0.length : Int))) then (waterhourlaw04_RefillTruth.j0 k l0 l1 l2 a3 a4 a5 a6 a7 ((l2.length : Int) != (l0.length : Int))) else (waterhourlaw04_RefillTruth.j0 k l0 l1 l2 a3 a4 a5 a6 a7 true)))) else (some false))) = some r := h
 clear h
 replace H := Option.bind_eq_some_iff.mp H
 obtain ⟨t847, A90, H⟩ := H
 replace H : (if t847 = true then (if (l0.length : Int) < 1 then (waterhourlaw04_RefillTruth.j0 k l0 l1 l2 a3 a4 a5 a6 a7 true) else (if (l0.length : Int) > 32 then (waterhourlaw04_RefillTruth.j0 k l0 l1 l2 a3 a4 a5 a6 a7 true) else (if (l1.length : Int) = (wrap64 (4 * (l0.length : Int))) then (waterhourlaw04_RefillTruth.j0 k l0 l1 l2 a3 a4 a5 a6 a7 ((l2.length : Int) != (l0.length : Int))) else (waterhourlaw04_RefillTruth.j0 k l0 l1 l2 a3 a4 a5 a6 a7 true)))) else (some false)) = some r := H
 have A9 := a_ A90
 clear A90
 by_cases c10 : t847 = true
 ·subst c10
  have H1 : (if (l0.length : Int) < 1 then (waterhourlaw04_RefillTruth.j0 k l0 l1 l2 a3 a4 a5 a6 a7 true) else (if (l0.length : Int) > 32 then (waterhourlaw04_RefillTruth.j0 k l0 l1 l2 a3 a4 a5 a6 a7 true) else (if (l1.length : Int) = (wrap64 (4 * (l0.length : Int))) then (waterhourlaw04_RefillTruth.j0 k l0 l1 l2 a3 a4 a5 a6 a7 ((l2.length : Int) != (l0.length : Int))) else (waterhourlaw04_RefillTruth.j0 k l0 l1 l2 a3 a4 a5 a6 a7 true)))) = some r := by rw [if_pos rfl] at H; exact H
  clear H
  have H := H1
  clear H1
  have HC11 := a_ H
  clear H
  go_enter Tryd.func16, Tryd.ntmps16
  go_upto_region 3 with (first | ((with_reducible refine gate_callee (f := 18) rfl ?_); refine goesL_ (some 27) rfl rfl Tryd.func18 (by kernel_rfl) rfl #[] rfl tm_ ?_; (with_reducible refine (law_sane.calls  true _ ?side1 A9.out).mono ?_); (case side1 => exact TabB.below HT.out bl_); rintro e w12 ⟨rfl, hb⟩; refine ⟨_, rfl, ?_⟩; have n0_ := a_ (Kd.V_below (vl_ HO0.out) hb); have n1_ := a_ (Kd.V_below (vl_ HO1.out) hb); have n2_ := a_ (below_step bl_ hb); clear HO0; clear HO1; clear HB; have HO0 := n0_; have HO1 := n1_; have HB := n2_; clear n0_ n1_ n2_; (try clear hb); (try clear hb2); (try clear hk); (try clear hi)))
  (try simp only [Act.put, List.setIfInBounds_toArray, List.set_cons_zero, List.set_cons_succ])
  go_cut [51] (fun v51 wc => ∃ (kq : Nat) (x51_10 : Bool), v51 = .bool x51_10 ∧ Aside0 (waterhourlaw04_RefillTruth.j0 kq l0 l1 l2 a3 a4 a5 a6 a7 x51_10 = some r) ∧ Aside0 (kq ≤ k) ∧ Aside0 (Kd.V (Kd.int .i64) 3 wc w.heap.size (fun k_ => ((P0_ k_ ∨ P1_ k_) ∨ w.heap.size ≤ k_)) (.slice A0 l0.length c0) l0) ∧ Aside0 (Kd.V (Kd.int .i64) 3 wc w.heap.size (fun k_ => ((P0_ k_ ∨ P1_ k_) ∨ w.heap.size ≤ k_)) (.slice A1 l1.length c1) l1) ∧ Aside0 (Below w.heap.size w wc))
  case first => as_aux_lemma =>
   have H := HC11.out
   clear HC11
   by_cases c13 : (l0.length : Int) < 1
   ·rw [if_pos c13] at H
    have c13b0 : decide ((l0.length : Int) < 1) = true := decide_eq_true c13
    have c13b1 : decide (l0.length < 1) = true := decide_eq_true (by omega)
    clear c13
    (first | rw [c13b0] | (simp only [i64_w, i32_w]; rw [c13b0]) | skip)
    have H' := a_ H
    clear H
    go_wp2
    go_meet
    case rel => exact ⟨_, (true), (by first | rfl | (simp; done) | (simp [*]; done)), H', ⟨by first | omega | exact Nat.le_refl _⟩, ⟨vl_ HO0.out⟩, ⟨vl_ HO1.out⟩, ⟨bl_⟩⟩
   ·rw [if_neg c13] at H
    have c13b0 : decide ((l0.length : Int) < 1) = false := decide_eq_false c13
    have c13b1 : decide (l0.length < 1) = false := decide_eq_false (by omega)
    clear c13
    (first | rw [c13b0] | (simp only [i64_w, i32_w]; rw [c13b0]) | skip)
    by_cases c14 : (l0.length : Int) > 32
    ·rw [if_pos c14] at H
     have c14b0 : decide (32 < (l0.length : Int)) = true := decide_eq_true c14
     have c14b1 : decide (32 < l0.length) = true := decide_eq_true (by omega)
     clear c14
     have H' := a_ H
     clear H
     go_wp2
     go_meet
     case rel => exact ⟨_, (true), (by first | rfl | (simp; done) | (simp [*]; done)), H', ⟨by first | omega | exact Nat.le_refl _⟩, ⟨vl_ HO0.out⟩, ⟨vl_ HO1.out⟩, ⟨bl_⟩⟩
    ·rw [if_neg c14] at H
     have c14b0 : decide (32 < (l0.length : Int)) = false := decide_eq_false c14
     have c14b1 : decide (32 < l0.length) = false := decide_eq_false (by omega)
     clear c14
     by_cases c15 : (l1.length : Int) = (wrap64 (4 * (l0.length : Int)))
     ·rw [if_pos c15] at H
      have c15b0 : ((l1.length : Int) == (wrap64 (4 * (l0.length : Int)))) = true := beq_iff_eq.mpr c15
      have c15b1 : ((l1.length : Int) != (wrap64 (4 * (l0.length : Int)))) = false := bne_eq_false_iff_eq.mpr c15
      clear c15
      have H' := a_ H
      clear H
      go_wp2
      go_meet
      case rel => exact ⟨_, (((l2.length : Int) != (l0.length : Int))), (by first | rfl | (simp; done) | (simp [*]; done)), H', ⟨by first | omega | exact Nat.le_refl _⟩, ⟨vl_ HO0.out⟩, ⟨vl_ HO1.out⟩, ⟨bl_⟩⟩
     ·rw [if_neg c15] at H
      have c15b0 : ((l1.length : Int) == (wrap64 (4 * (l0.length : Int)))) = false := beq_eq_false_iff_ne.mpr c15
      have c15b1 : ((l1.length : Int) != (wrap64 (4 * (l0.length : Int)))) = true := bne_iff_ne.mpr c15
      have H' := a_ H
      clear H
      go_wp2
      go_meet
      case rel => exact ⟨_, (true), (by first | rfl | (simp; done) | (simp [*]; done)), H', ⟨by first | omega | exact Nat.le_refl _⟩, ⟨vl_ HO0.out⟩, ⟨vl_ HO1.out⟩, ⟨bl_⟩⟩
  case rest =>
   clear HC11
   try clear c1
   try clear c2
   try clear p2
   try clear p6
   try clear c10
   try clear c13
   try clear c13b0
   try clear c13b1
   try clear c14
   try clear c14b0
   try clear c14b1
   try clear c15
   try clear c15b0
   try clear c15b1
   obtain ⟨kq, x51_10, rfl, HA, HJ10, HO_0, HO_1, HB⟩ := hcut
   cases kq with
   | zero => exact absurd HA.out (by simp [waterhourlaw04_RefillTruth.j0])
   | succ kj10 =>
    have H := HA.out
    clear HA
    simp only [waterhourlaw04_RefillTruth.j0] at H
    by_cases c16 : x51_10 = true
    ·subst c16
     have H1 : (some true) = some r := by rw [if_pos rfl] at H; exact H
     clear H
     have H := H1
     clear H1
     obtain rfl := Option.some.inj H
     go_wp2
     go_ret
     exact ⟨by first | rfl | (simp [errW_none, errW_some] <;> rfl) | (simp [*, errW_none, errW_some] <;> rfl), bl_⟩
    ·replace c16 := Bool.eq_false_iff.mpr c16
     subst c16
     have H1 : ((slices_Concat_int_int.f kj10 (([l0, l1] : List (List Int)))).bind fun t851 => (waterhourlaw04_RefillTruth.l0 kj10 l0 l1 l2 a3 a4 a5 a6 a7 t851 (t851.length : Int) 0)) = some r := by rw [if_neg (show ¬ (false = true) by decide)] at H; exact H
     clear H
     have H := H1
     clear H1
     obtain ⟨y848, hy848⟩ : ∃ y_ : List (List Int), y_ = (([l0, l1] : List (List Int))) := ⟨_, rfl⟩
     replace H : ((slices_Concat_int_int.f kj10 y848).bind fun t851 => (waterhourlaw04_RefillTruth.l0 kj10 l0 l1 l2 a3 a4 a5 a6 a7 t851 (t851.length : Int) 0)) = some r := by first | (rw [hy848]; with_reducible exact H) | (have H2_ := (Option.bind_some _ _).symm.trans H; rw [hy848]; with_reducible exact H2_) | (have H2_ := (Option.bind_some _ _).symm.trans H; with_reducible exact H2_) | with_reducible exact H | (rw [hy848]; exact H) | exact H
     have Ny848 := a_ hy848
     clear hy848
     replace H := Option.bind_eq_some_iff.mp H
     obtain ⟨t851, A170, H⟩ := H
     replace H : (waterhourlaw04_RefillTruth.l0 kj10 l0 l1 l2 a3 a4 a5 a6 a7 t851 (t851.length : Int) 0) = some r := H
     have A17 := a_ A170
     clear A170
     have H' := a_ H
     clear H
     go_wp2_with (first | ((with_reducible refine gate_dst (N := 54) rfl ?_); (try (refine gate_guard (by rfl) ?_; dsimp only)); refine Kd.N_lit (Kd.slice 3 (Kd.int .i64)) _ 26 ?hg (N' := 54) ?hd (xs := ([l0, l1] : List (List Int))) (inner := [.slice A0 l0.length c0, .slice A1 l1.length c1]) (ok := (fun k_ => ((P0_ k_ ∨ P1_ k_) ∨ w.heap.size ≤ k_))) (okp := (fun k_ => ((P0_ k_ ∨ P1_ k_) ∨ w.heap.size ≤ k_))) ?hr ?hp (fun _ hk => hk) ((show ∀ k_, wc.heap.size ≤ k_ → (fun k_ => ((P0_ k_ ∨ P1_ k_) ∨ w.heap.size ≤ k_)) k_ from fun k_ hk => (.inr (Nat.le_trans (below_size bl_) hk))) _ (Nat.le_refl _)) (Below.refl _ _) (Nat.le_refl _) (by simp) ?_; (case hd => rfl); (case hg => rfl); (case hr => first | (go_simp; done) | (go_simp; rfl)); (case hp => exact (Reps.one (show Kd.FK (Kd.slice 3 (Kd.int .i64)) _ _ l0 [.slice A0 l0.length c0] from (Kd.FK_slice_mk (Kd.V_reads' (Kd.V_mono (ok' := (fun k_ => ((P0_ k_ ∨ P1_ k_) ∨ w.heap.size ≤ k_))) (HO_0.out) (fun k_ hk => hk))).2.1 (Kd.V_F (Kd.V_mono (ok' := (fun k_ => ((P0_ k_ ∨ P1_ k_) ∨ w.heap.size ≤ k_))) (HO_0.out) (fun k_ hk => hk))))) (Reps.one (show Kd.FK (Kd.slice 3 (Kd.int .i64)) _ _ l1 [.slice A1 l1.length c1] from (Kd.FK_slice_mk (Kd.V_reads' (Kd.V_mono (ok' := (fun k_ => ((P0_ k_ ∨ P1_ k_) ∨ w.heap.size ≤ k_))) (HO_1.out) (fun k_ hk => hk))).2.1 (Kd.V_F (Kd.V_mono (ok' := (fun k_ => ((P0_ k_ ∨ P1_ k_) ∨ w.heap.size ≤ k_))) (HO_1.out) (fun k_ hk => hk))))) (Reps.none _ _)))); intro v849 w18 ho19 hb hg_ hnew_; clear hg_ hnew_; (first | rw [← Ny848.out] at ho19 | (simp only [Int.reduceToNat] at ho19; rw [← Ny848.out] at ho19)); have n0_ := a_ (Kd.V_elder' (vl_ HO_0.out) (Kd.N_base ho19) hb); have n1_ := a_ (Kd.V_elder' (vl_ HO_1.out) (Kd.N_base ho19) hb); have n2_ := a_ (Kd.N_lower ho19 (below_size bl_)); have n3_ := a_ (below_step bl_ hb); clear HO_0; clear HO_1; clear HB; have HO_0 := n0_; have HO_1 := n1_; have HO850 := n2_; have HB := n3_; clear n0_ n1_ n2_ n3_; clear hb ho19; obtain ⟨Ao20, co20, eo20⟩ := Kd.N_slice HO850.out; subst eo20) | ((with_reducible refine gate_callee (f := 37) rfl ?_); refine goesL_ (some 55) rfl rfl Tryd.func37 (by kernel_rfl) rfl #[.slice Ao20 y848.length co20] rfl tm_ ?_; (with_reducible refine (slices_Concat_int_int.calls kj10 _ _ y848 t851 _ ?side1 ?side2 A17.out).mono ?_); (case side1 => exact cl_ ((Kd.N_reads' HO850.out).2.2)); (case side2 => exact (Kd.N_reads' HO850.out).2.1); rintro e w21 ⟨v852, rfl, ho0, hb⟩; refine ⟨_, rfl, ?_⟩; have n0_ := a_ (Kd.V_elder' (vl_ HO_0.out) (Kd.R_base ho0) hb); have n1_ := a_ (Kd.V_elder' (vl_ HO_1.out) (Kd.R_base ho0) hb); have n2_ := a_ (Kd.N_elder' (by (with_reducible repeat (first | apply Kd.N_alloc | apply Kd.N_drewN | apply Kd.N_drew)); exact HO850.out) (Kd.R_base ho0) hb); have n3_ := a_ (Kd.R_lower (Kd.R_newM (M := fun k_ => (w.heap.size ≤ k_)) ho0 (below_size bl_) (fun k_ h_ => h_)) (below_size bl_)); have n4_ := a_ (below_step bl_ hb); clear HO_0; clear HO_1; clear HO850; clear HB; have HO_0 := n0_; have HO_1 := n1_; have HO850 := n2_; have HO853 := n3_; have HB := n4_; clear n0_ n1_ n2_ n3_ n4_; (try clear hb); (try clear hb2); (try clear hk); (try clear hi); (try clear ho0); obtain ⟨Ao22, co22, eo22⟩ := Kd.R_slice HO853.out; subst eo22))
     go_loopg [57] kj10 (fun kq v57 w' => ∃ (x57_2 : Int), v57 = .int .i64 x57_2 ∧ Aside0 (waterhourlaw04_RefillTruth.l0 kq l0 l1 l2 a3 a4 a5 a6 a7 t851 (t851.length : Int) x57_2 = some r) ∧ Aside0 (kq ≤ kj10) ∧ Aside0 (Kd.V (Kd.int .i64) 3 w' w.heap.size (fun k_ => ((P0_ k_ ∨ P1_ k_) ∨ w.heap.size ≤ k_) ∧ some k_ ≠ ((.slice Ao22 t851.length co22) : Value).ownBlock) (.slice A0 l0.length c0) l0) ∧ Aside0 (Kd.V (Kd.int .i64) 3 w' w.heap.size (fun k_ => ((P0_ k_ ∨ P1_ k_) ∨ w.heap.size ≤ k_) ∧ some k_ ≠ ((.slice Ao22 t851.length co22) : Value).ownBlock) (.slice A1 l1.length c1) l1) ∧ Aside0 (Kd.R (Kd.int .i64) 3 w' w.heap.size (fun k_ => (w.heap.size ≤ k_)) (.slice Ao22 t851.length co22) t851) ∧ Aside0 (Below w.heap.size w w'))
     case atStart => exact ⟨(0), (by first | rfl | (simp; done) | (simp [*]; done)), H', ⟨Nat.le_refl _⟩, ⟨by (with_reducible repeat (first | apply Kd.V_alloc | apply Kd.V_drewN | apply Kd.V_drew)); exact Kd.V_mono HO_0.out (fun _ hk => ⟨hk.1.1, hk.2⟩)⟩, ⟨by (with_reducible repeat (first | apply Kd.V_alloc | apply Kd.V_drewN | apply Kd.V_drew)); exact Kd.V_mono HO_1.out (fun _ hk => ⟨hk.1.1, hk.2⟩)⟩, ⟨rl_ (Kd.R_mono HO853.out (fun _ hk => hk.1))⟩, ⟨bl_⟩⟩
     case round =>
      clear H'
      try clear c1
      try clear c2
      try clear p2
      try clear c3
      try clear p6
      try clear c10
      try clear c13
      try clear c13b0
      try clear c13b1
      try clear c14
      try clear c14b0
      try clear c14b1
      try clear c15
      try clear c15b0
      try clear c15b1
      try clear c16
      try clear c18
      try clear p2
      try clear p6
      obtain ⟨x57_2, rfl, HA, HK2, HO_0, HO_1, HO_55, HB⟩ := hrel
      cases gk with
      | zero => exact absurd HA.out (by simp [waterhourlaw04_RefillTruth.l0])
      | succ k2 =>
       have H := HA.out
       clear HA
       simp only [waterhourlaw04_RefillTruth.l0] at H
       by_cases c23 : x57_2 < (t851.length : Int)
       ·rw [if_pos c23] at H
        have c23b0 : decide (x57_2 < (t851.length : Int)) = true := decide_eq_true c23
        clear c23
        by_cases c24 : 0 ≤ x57_2
        ·rw [if_pos c24] at H
         have c24b0 : decide (0 ≤ x57_2) = true := decide_eq_true c24
         clear c24
         by_cases c25 : x57_2 < (t851.length : Int)
         ·rw [if_pos c25] at H
          have c25b0 : decide (x57_2 < (t851.length : Int)) = true := decide_eq_true c25
          clear c25
          by_cases c26 : (rd t851 x57_2) < 0
          ·rw [if_pos c26] at H
           have c26b0 : decide ((rd t851 x57_2) < 0) = true := decide_eq_true c26
           clear c26
           obtain rfl := Option.some.inj H
           have p854 : 0 ≤ (x57_2 : Int) := of_decide_eq_true (by first | (with_reducible assumption) | assumption)
           have q854 : x57_2 < (t851.length : Int) := of_decide_eq_true (by first | (with_reducible assumption) | assumption)
           obtain ⟨ad854, e854, hx854_0⟩ := Kd.at_int (Kd.R_reads' HO_55.out).2.2 x57_2 p854 q854
           cases e854
           replace p854 := eq_true p854
           replace q854 := eq_true q854
           go_wp2
           go_ret
           exact ⟨by first | rfl | (simp [errW_none, errW_some] <;> rfl) | (simp [*, errW_none, errW_some] <;> rfl), bl_⟩
          ·rw [if_neg c26] at H
           have c26b0 : decide ((rd t851 x57_2) < 0) = false := decide_eq_false c26
           clear c26
           by_cases c27 : (rd t851 x57_2) > 100000
           ·rw [if_pos c27] at H
            have c27b0 : decide (100000 < (rd t851 x57_2)) = true := decide_eq_true c27
            clear c27
            obtain rfl := Option.some.inj H
            have p854 : 0 ≤ (x57_2 : Int) := of_decide_eq_true (by first | (with_reducible assumption) | assumption)
            have q854 : x57_2 < (t851.length : Int) := of_decide_eq_true (by first | (with_reducible assumption) | assumption)
            obtain ⟨ad854, e854, hx854_0⟩ := Kd.at_int (Kd.R_reads' HO_55.out).2.2 x57_2 p854 q854
            cases e854
            replace p854 := eq_true p854
            replace q854 := eq_true q854
            go_wp2
            go_ret
            exact ⟨by first | rfl | (simp [errW_none, errW_some] <;> rfl) | (simp [*, errW_none, errW_some] <;> rfl), bl_⟩
           ·rw [if_neg c27] at H
            have c27b0 : decide (100000 < (rd t851 x57_2)) = false := decide_eq_false c27
            clear c27
            have H' := a_ H
            clear H
            have p854 : 0 ≤ (x57_2 : Int) := of_decide_eq_true (by first | (with_reducible assumption) | assumption)
            have q854 : x57_2 < (t851.length : Int) := of_decide_eq_true (by first | (with_reducible assumption) | assumption)
            obtain ⟨ad854, e854, hx854_0⟩ := Kd.at_int (Kd.R_reads' HO_55.out).2.2 x57_2 p854 q854
            cases e854
            replace p854 := eq_true p854
            replace q854 := eq_true q854
            go_wp2
            go_roundg k2
            case measure => have := HJ10.out; have := HK2.out; omega
            case rel => exact ⟨(wrap64 (x57_2 + 1)), (by first | rfl | (simp; done) | (simp [*]; done)), H', ⟨by have := HJ10.out; have := HK2.out; omega⟩, ⟨vl_ HO_0.out⟩, ⟨vl_ HO_1.out⟩, ⟨rl_ HO_55.out⟩, ⟨bl_⟩⟩
         ·rw [if_neg c25] at H
          exact absurd H (by simp)
        ·rw [if_neg c24] at H
         exact absurd H (by simp)
       ·rw [if_neg c23] at H
        have c23b0 : decide (x57_2 < (t851.length : Int)) = false := decide_eq_false c23
        clear c23
        have H' := a_ H
        clear H
        go_wp2
        go_loopg [19, 20, 21, 70] k2 (fun kq v19 v20 v21 v70 w' => ∃ (x19_3 : List (S51)) (x20_3 : List Int) (x21_3 : Int) (x70_3 : Int), v21 = .int .i64 x21_3 ∧ v70 = .int .i64 x70_3 ∧ Aside0 (waterhourlaw04_RefillTruth.l1 kq l1 l2 a3 a4 a5 a6 a7 x19_3 x20_3 x21_3 l0 (l0.length : Int) x70_3 = some r) ∧ Aside0 (kq ≤ k2) ∧ Aside0 (Kd.V (Kd.int .i64) 3 w' w.heap.size (fun k_ => ((P0_ k_ ∨ P1_ k_) ∨ w.heap.size ≤ k_) ∧ some k_ ≠ (v19 : Value).ownBlock ∧ some k_ ≠ (v20 : Value).ownBlock) (.slice A1 l1.length c1) l1) ∧ Aside0 (Kd.R k51 51 w' w.heap.size (fun k_ => (w.heap.size ≤ k_)) v19 x19_3) ∧ Aside0 (Kd.R (Kd.int .i64) 3 w' w.heap.size (fun k_ => (w.heap.size ≤ k_)) v20 x20_3) ∧ Aside0 (Kd.V (Kd.int .i64) 3 w' w.heap.size (fun k_ => ((P0_ k_ ∨ P1_ k_) ∨ w.heap.size ≤ k_) ∧ some k_ ≠ (v19 : Value).ownBlock ∧ some k_ ≠ (v20 : Value).ownBlock) (.slice A0 l0.length c0) l0) ∧ Aside0 (Below w.heap.size w w'))
        case atStart => exact ⟨(([] : List (S51))), (([] : List Int)), (0), (0), (by first | rfl | (simp; done) | (simp [*]; done)), (by first | rfl | (simp; done) | (simp [*]; done)), H', ⟨Nat.le_refl _⟩, ⟨by (with_reducible repeat (first | apply Kd.V_alloc | apply Kd.V_drewN | apply Kd.V_drew)); exact Kd.V_mono HO_1.out (fun _ hk => ⟨hk.1, ⟨(by simp [Value.ownBlock]), (by simp [Value.ownBlock])⟩⟩)⟩, ⟨by first | exact Kd.R_nil _ _ _ _ _ | exact Kd.N_nil _ _ _ _ _ | exact Kd.V_nil _ _ _ _ _ | exact Kd.Q_nil _ _ _ _ _ | exact Kd.S_nil _ _ _ _ _⟩, ⟨by first | exact Kd.R_nil _ _ _ _ _ | exact Kd.N_nil _ _ _ _ _ | exact Kd.V_nil _ _ _ _ _ | exact Kd.Q_nil _ _ _ _ _ | exact Kd.S_nil _ _ _ _ _⟩, ⟨by (with_reducible repeat (first | apply Kd.V_alloc | apply Kd.V_drewN | apply Kd.V_drew)); exact Kd.V_mono HO_0.out (fun _ hk => ⟨hk.1, ⟨(by simp [Value.ownBlock]), (by simp [Value.ownBlock])⟩⟩)⟩, ⟨bl_⟩⟩
        case round =>
         clear H'
         try clear c1
         try clear c2
         try clear p2
         try clear c3
         try clear p6
         try clear p8
         try clear q8
         try clear hx8
         try clear c10
         try clear c13
         try clear c13b0
         try clear c13b1
         try clear c14
         try clear c14b0
         try clear c14b1
         try clear c15
         try clear c15b0
         try clear c15b1
         try clear c16
         try clear c18
         try clear c23
         try clear c23b0
         try clear c24
         try clear c24b0
         try clear c25
         try clear c25b0
         try clear c26
         try clear c26b0
         try clear c27
         try clear c27b0
         try clear hx854_0
         try clear p2
         try clear p6
         try clear p854
         try clear q854
         obtain ⟨x19_3, x20_3, x21_3, x70_3, rfl, rfl, HA, HK3, HO_1, HO_19, HO_20, HO_68, HB⟩ := hrel
         cases gk with
         | zero => exact absurd HA.out (by simp [waterhourlaw04_RefillTruth.l1])
         | succ k3 =>
          have H := HA.out
          clear HA
          simp only [waterhourlaw04_RefillTruth.l1] at H
          by_cases c28 : x70_3 < (l0.length : Int)
          ·rw [if_pos c28] at H
           have c28b0 : decide (x70_3 < (l0.length : Int)) = true := decide_eq_true c28
           clear c28
           by_cases c29 : 0 ≤ x70_3
           ·rw [if_pos c29] at H
            have c29b0 : decide (0 ≤ x70_3) = true := decide_eq_true c29
            clear c29
            by_cases c30 : x70_3 < (l0.length : Int)
            ·rw [if_pos c30] at H
             have c30b0 : decide (x70_3 < (l0.length : Int)) = true := decide_eq_true c30
             clear c30
             obtain ⟨ji31, hji31⟩ : ∃ j_ : Int, (wrap64 (4 * x70_3)) = j_ := ⟨_, rfl⟩
             replace H : (if 0 ≤ (ji31) then (if (ji31) < (l1.length : Int) then (if 0 ≤ (wrap64 ((ji31) + 1)) then (if (wrap64 ((ji31) + 1)) < (l1.length : Int) then (if x70_3 < (l2.length : Int) then (if rdOf false l2 x70_3 = true then (if 0 ≤ (wrap64 ((ji31) + 2)) then (if (wrap64 ((ji31) + 2)) < (l1.length : Int) then (if 0 ≤ (wrap64 ((ji31) + 3)) then (if (wrap64 ((ji31) + 3)) < (l1.length : Int) then (if x19_3.length < 4398046511104 then (if x20_3.length < 17592186044416 then (waterhourlaw04_RefillTruth.l1 k3 l1 l2 a3 a4 a5 a6 a7 (x19_3 ++ [(⟨(⟨mx (wrap64 ((rd l0 x70_3) - (rd l1 (ji31)))) 0, wrap64 ((rd l0 x70_3) + (rd l1 (wrap64 ((ji31) + 1))))⟩ : S49), (⟨mx (wrap64 ((wrap64 (x21_3 + (rd l0 x70_3))) - (rd l1 (wrap64 ((ji31) + 2))))) 0, wrap64 ((wrap64 (x21_3 + (rd l0 x70_3))) + (rd l1 (wrap64 ((ji31) + 3))))⟩ : S49)⟩ : S51)]) (x20_3 ++ [wrap64 (x21_3 + (rd l0 x70_3))]) (wrap64 (x21_3 + (rd l0 x70_3))) l0 (l0.length : Int) (wrap64 (x70_3 + 1))) else (none)) else (none)) else (none)) else (none)) else (none)) else (none)) else (if x19_3.length < 4398046511104 then (if x20_3.length < 17592186044416 then (waterhourlaw04_RefillTruth.l1 k3 l1 l2 a3 a4 a5 a6 a7 (x19_3 ++ [(⟨(⟨mx (wrap64 ((rd l0 x70_3) - (rd l1 (ji31)))) 0, wrap64 ((rd l0 x70_3) + (rd l1 (wrap64 ((ji31) + 1))))⟩ : S49), (⟨1, 0⟩ : S49)⟩ : S51)]) (x20_3 ++ [wrap64 (x21_3 + (rd l0 x70_3))]) (wrap64 (x21_3 + (rd l0 x70_3))) l0 (l0.length : Int) (wrap64 (x70_3 + 1))) else (none)) else (none))) else (none)) else (none)) else (none)) else (none)) else (none)) = some r := by first | (rw [hji31] at H; exact H) | (simp only [hji31] at H ⊢; exact H)
             have hji31w : (IntKind.i64.wrap (4 * x70_3)) = ji31 := (i64_w _).trans hji31
             by_cases c32 : 0 ≤ (ji31)
             ·rw [if_pos c32] at H
              have c32b0 : decide (0 ≤ (ji31)) = true := decide_eq_true c32
              clear c32
              by_cases c33 : (ji31) < (l1.length : Int)
              ·rw [if_pos c33] at H
               have c33b0 : decide ((ji31) < (l1.length : Int)) = true := decide_eq_true c33
               clear c33
               obtain ⟨ji34, hji34⟩ : ∃ j_ : Int, (mx (wrap64 ((rd l0 x70_3) - (rd l1 (ji31)))) 0) = j_ := ⟨_, rfl⟩
               replace H : (if 0 ≤ (wrap64 ((ji31) + 1)) then (if (wrap64 ((ji31) + 1)) < (l1.length : Int) then (if x70_3 < (l2.length : Int) then (if rdOf false l2 x70_3 = true then (if 0 ≤ (wrap64 ((ji31) + 2)) then (if (wrap64 ((ji31) + 2)) < (l1.length : Int) then (if 0 ≤ (wrap64 ((ji31) + 3)) then (if (wrap64 ((ji31) + 3)) < (l1.length : Int) then (if x19_3.length < 4398046511104 then (if x20_3.length < 17592186044416 then (waterhourlaw04_RefillTruth.l1 k3 l1 l2 a3 a4 a5 a6 a7 (x19_3 ++ [(⟨(⟨ji34, wrap64 ((rd l0 x70_3) + (rd l1 (wrap64 ((ji31) + 1))))⟩ : S49), (⟨mx (wrap64 ((wrap64 (x21_3 + (rd l0 x70_3))) - (rd l1 (wrap64 ((ji31) + 2))))) 0, wrap64 ((wrap64 (x21_3 + (rd l0 x70_3))) + (rd l1 (wrap64 ((ji31) + 3))))⟩ : S49)⟩ : S51)]) (x20_3 ++ [wrap64 (x21_3 + (rd l0 x70_3))]) (wrap64 (x21_3 + (rd l0 x70_3))) l0 (l0.length : Int) (wrap64 (x70_3 + 1))) else (none)) else (none)) else (none)) else (none)) else (none)) else (none)) else (if x19_3.length < 4398046511104 then (if x20_3.length < 17592186044416 then (waterhourlaw04_RefillTruth.l1 k3 l1 l2 a3 a4 a5 a6 a7 (x19_3 ++ [(⟨(⟨ji34, wrap64 ((rd l0 x70_3) + (rd l1 (wrap64 ((ji31) + 1))))⟩ : S49), (⟨1, 0⟩ : S49)⟩ : S51)]) (x20_3 ++ [wrap64 (x21_3 + (rd l0 x70_3))]) (wrap64 (x21_3 + (rd l0 x70_3))) l0 (l0.length : Int) (wrap64 (x70_3 + 1))) else (none)) else (none))) else (none)) else (none)) else (none)) = some r := by first | (rw [hji34] at H; exact H) | (simp only [hji34] at H ⊢; exact H)
               have hji34_ : (if (wrap64 ((rd l0 x70_3) - (rd l1 (ji31)))) < 0 then 0 else (wrap64 ((rd l0 x70_3) - (rd l1 (ji31))))) = ji34 := hji34
               obtain ⟨ji35, hji35⟩ : ∃ j_ : Int, (wrap64 ((ji31) + 1)) = j_ := ⟨_, rfl⟩
               replace H : (if 0 ≤ (ji35) then (if (ji35) < (l1.length : Int) then (if x70_3 < (l2.length : Int) then (if rdOf false l2 x70_3 = true then (if 0 ≤ (wrap64 ((ji31) + 2)) then (if (wrap64 ((ji31) + 2)) < (l1.length : Int) then (if 0 ≤ (wrap64 ((ji31) + 3)) then (if (wrap64 ((ji31) + 3)) < (l1.length : Int) then (if x19_3.length < 4398046511104 then (if x20_3.length < 17592186044416 then (waterhourlaw04_RefillTruth.l1 k3 l1 l2 a3 a4 a5 a6 a7 (x19_3 ++ [(⟨(⟨ji34, wrap64 ((rd l0 x70_3) + (rd l1 (ji35)))⟩ : S49), (⟨mx (wrap64 ((wrap64 (x21_3 + (rd l0 x70_3))) - (rd l1 (wrap64 ((ji31) + 2))))) 0, wrap64 ((wrap64 (x21_3 + (rd l0 x70_3))) + (rd l1 (wrap64 ((ji31) + 3))))⟩ : S49)⟩ : S51)]) (x20_3 ++ [wrap64 (x21_3 + (rd l0 x70_3))]) (wrap64 (x21_3 + (rd l0 x70_3))) l0 (l0.length : Int) (wrap64 (x70_3 + 1))) else (none)) else (none)) else (none)) else (none)) else (none)) else (none)) else (if x19_3.length < 4398046511104 then (if x20_3.length < 17592186044416 then (waterhourlaw04_RefillTruth.l1 k3 l1 l2 a3 a4 a5 a6 a7 (x19_3 ++ [(⟨(⟨ji34, wrap64 ((rd l0 x70_3) + (rd l1 (ji35)))⟩ : S49), (⟨1, 0⟩ : S49)⟩ : S51)]) (x20_3 ++ [wrap64 (x21_3 + (rd l0 x70_3))]) (wrap64 (x21_3 + (rd l0 x70_3))) l0 (l0.length : Int) (wrap64 (x70_3 + 1))) else (none)) else (none))) else (none)) else (none)) else (none)) = some r := by first | (rw [hji35] at H; exact H) | (simp only [hji35] at H ⊢; exact H)
               have hji35w : (IntKind.i64.wrap ((ji31) + 1)) = ji35 := (i64_w _).trans hji35
               by_cases c36 : 0 ≤ (ji35)
               ·rw [if_pos c36] at H
                have c36b0 : decide (0 ≤ (ji35)) = true := decide_eq_true c36
                clear c36
                by_cases c37 : (ji35) < (l1.length : Int)
                ·rw [if_pos c37] at H
                 have c37b0 : decide ((ji35) < (l1.length : Int)) = true := decide_eq_true c37
                 clear c37
                 by_cases c38 : x70_3 < (l2.length : Int)
                 ·rw [if_pos c38] at H
                  have c38b0 : decide (x70_3 < (l2.length : Int)) = true := decide_eq_true c38
                  clear c38
                  obtain ⟨bq39, hbq39⟩ : ∃ b_ : Bool, b_ = (rdOf false l2 x70_3) := ⟨_, rfl⟩
                  replace H : (if bq39 = true then (if 0 ≤ (wrap64 ((ji31) + 2)) then (if (wrap64 ((ji31) + 2)) < (l1.length : Int) then (if 0 ≤ (wrap64 ((ji31) + 3)) then (if (wrap64 ((ji31) + 3)) < (l1.length : Int) then (if x19_3.length < 4398046511104 then (if x20_3.length < 17592186044416 then (waterhourlaw04_RefillTruth.l1 k3 l1 l2 a3 a4 a5 a6 a7 (x19_3 ++ [(⟨(⟨ji34, wrap64 ((rd l0 x70_3) + (rd l1 (ji35)))⟩ : S49), (⟨mx (wrap64 ((wrap64 (x21_3 + (rd l0 x70_3))) - (rd l1 (wrap64 ((ji31) + 2))))) 0, wrap64 ((wrap64 (x21_3 + (rd l0 x70_3))) + (rd l1 (wrap64 ((ji31) + 3))))⟩ : S49)⟩ : S51)]) (x20_3 ++ [wrap64 (x21_3 + (rd l0 x70_3))]) (wrap64 (x21_3 + (rd l0 x70_3))) l0 (l0.length : Int) (wrap64 (x70_3 + 1))) else (none)) else (none)) else (none)) else (none)) else (none)) else (none)) else (if x19_3.length < 4398046511104 then (if x20_3.length < 17592186044416 then (waterhourlaw04_RefillTruth.l1 k3 l1 l2 a3 a4 a5 a6 a7 (x19_3 ++ [(⟨(⟨ji34, wrap64 ((rd l0 x70_3) + (rd l1 (ji35)))⟩ : S49), (⟨1, 0⟩ : S49)⟩ : S51)]) (x20_3 ++ [wrap64 (x21_3 + (rd l0 x70_3))]) (wrap64 (x21_3 + (rd l0 x70_3))) l0 (l0.length : Int) (wrap64 (x70_3 + 1))) else (none)) else (none))) = some r := by rw [← hbq39] at H; exact H
                  have Nbq39 := a_ hbq39
                  clear hbq39
                  by_cases c40 : bq39 = true
                  ·subst c40
                   have H1 : (if 0 ≤ (wrap64 ((ji31) + 2)) then (if (wrap64 ((ji31) + 2)) < (l1.length : Int) then (if 0 ≤ (wrap64 ((ji31) + 3)) then (if (wrap64 ((ji31) + 3)) < (l1.length : Int) then (if x19_3.length < 4398046511104 then (if x20_3.length < 17592186044416 then (waterhourlaw04_RefillTruth.l1 k3 l1 l2 a3 a4 a5 a6 a7 (x19_3 ++ [(⟨(⟨ji34, wrap64 ((rd l0 x70_3) + (rd l1 (ji35)))⟩ : S49), (⟨mx (wrap64 ((wrap64 (x21_3 + (rd l0 x70_3))) - (rd l1 (wrap64 ((ji31) + 2))))) 0, wrap64 ((wrap64 (x21_3 + (rd l0 x70_3))) + (rd l1 (wrap64 ((ji31) + 3))))⟩ : S49)⟩ : S51)]) (x20_3 ++ [wrap64 (x21_3 + (rd l0 x70_3))]) (wrap64 (x21_3 + (rd l0 x70_3))) l0 (l0.length : Int) (wrap64 (x70_3 + 1))) else (none)) else (none)) else (none)) else (none)) else (none)) else (none)) = some r := by rw [if_pos rfl] at H; exact H
                   clear H
                   have H := H1
                   clear H1
                   obtain ⟨ji41, hji41⟩ : ∃ j_ : Int, (wrap64 ((ji31) + 2)) = j_ := ⟨_, rfl⟩
                   replace H : (if 0 ≤ (ji41) then (if (ji41) < (l1.length : Int) then (if 0 ≤ (wrap64 ((ji31) + 3)) then (if (wrap64 ((ji31) + 3)) < (l1.length : Int) then (if x19_3.length < 4398046511104 then (if x20_3.length < 17592186044416 then (waterhourlaw04_RefillTruth.l1 k3 l1 l2 a3 a4 a5 a6 a7 (x19_3 ++ [(⟨(⟨ji34, wrap64 ((rd l0 x70_3) + (rd l1 (ji35)))⟩ : S49), (⟨mx (wrap64 ((wrap64 (x21_3 + (rd l0 x70_3))) - (rd l1 (ji41)))) 0, wrap64 ((wrap64 (x21_3 + (rd l0 x70_3))) + (rd l1 (wrap64 ((ji31) + 3))))⟩ : S49)⟩ : S51)]) (x20_3 ++ [wrap64 (x21_3 + (rd l0 x70_3))]) (wrap64 (x21_3 + (rd l0 x70_3))) l0 (l0.length : Int) (wrap64 (x70_3 + 1))) else (none)) else (none)) else (none)) else (none)) else (none)) else (none)) = some r := by first | (rw [hji41] at H; exact H) | (simp only [hji41] at H ⊢; exact H)
                   have hji41w : (IntKind.i64.wrap ((ji31) + 2)) = ji41 := (i64_w _).trans hji41
                   by_cases c42 : 0 ≤ (ji41)
                   ·rw [if_pos c42] at H
                    have c42b0 : decide (0 ≤ (ji41)) = true := decide_eq_true c42
                    clear c42
                    by_cases c43 : (ji41) < (l1.length : Int)
                    ·rw [if_pos c43] at H
                     have c43b0 : decide ((ji41) < (l1.length : Int)) = true := decide_eq_true c43
                     clear c43
                     obtain ⟨ji44, hji44⟩ : ∃ j_ : Int, (mx (wrap64 ((wrap64 (x21_3 + (rd l0 x70_3))) - (rd l1 (ji41)))) 0) = j_ := ⟨_, rfl⟩
                     replace H : (if 0 ≤ (wrap64 ((ji31) + 3)) then (if (wrap64 ((ji31) + 3)) < (l1.length : Int) then (if x19_3.length < 4398046511104 then (if x20_3.length < 17592186044416 then (waterhourlaw04_RefillTruth.l1 k3 l1 l2 a3 a4 a5 a6 a7 (x19_3 ++ [(⟨(⟨ji34, wrap64 ((rd l0 x70_3) + (rd l1 (ji35)))⟩ : S49), (⟨ji44, wrap64 ((wrap64 (x21_3 + (rd l0 x70_3))) + (rd l1 (wrap64 ((ji31) + 3))))⟩ : S49)⟩ : S51)]) (x20_3 ++ [wrap64 (x21_3 + (rd l0 x70_3))]) (wrap64 (x21_3 + (rd l0 x70_3))) l0 (l0.length : Int) (wrap64 (x70_3 + 1))) else (none)) else (none)) else (none)) else (none)) = some r := by first | (rw [hji44] at H; exact H) | (simp only [hji44] at H ⊢; exact H)
                     have hji44_ : (if (wrap64 ((wrap64 (x21_3 + (rd l0 x70_3))) - (rd l1 (ji41)))) < 0 then 0 else (wrap64 ((wrap64 (x21_3 + (rd l0 x70_3))) - (rd l1 (ji41))))) = ji44 := hji44
                     obtain ⟨ji45, hji45⟩ : ∃ j_ : Int, (wrap64 ((ji31) + 3)) = j_ := ⟨_, rfl⟩
                     replace H : (if 0 ≤ (ji45) then (if (ji45) < (l1.length : Int) then (if x19_3.length < 4398046511104 then (if x20_3.length < 17592186044416 then (waterhourlaw04_RefillTruth.l1 k3 l1 l2 a3 a4 a5 a6 a7 (x19_3 ++ [(⟨(⟨ji34, wrap64 ((rd l0 x70_3) + (rd l1 (ji35)))⟩ : S49), (⟨ji44, wrap64 ((wrap64 (x21_3 + (rd l0 x70_3))) + (rd l1 (ji45)))⟩ : S49)⟩ : S51)]) (x20_3 ++ [wrap64 (x21_3 + (rd l0 x70_3))]) (wrap64 (x21_3 + (rd l0 x70_3))) l0 (l0.length : Int) (wrap64 (x70_3 + 1))) else (none)) else (none)) else (none)) else (none)) = some r := by first | (rw [hji45] at H; exact H) | (simp only [hji45] at H ⊢; exact H)
                     have hji45w : (IntKind.i64.wrap ((ji31) + 3)) = ji45 := (i64_w _).trans hji45
                     by_cases c46 : 0 ≤ (ji45)
                     ·rw [if_pos c46] at H
                      have c46b0 : decide (0 ≤ (ji45)) = true := decide_eq_true c46
                      clear c46
                      by_cases c47 : (ji45) < (l1.length : Int)
                      ·rw [if_pos c47] at H
                       have c47b0 : decide ((ji45) < (l1.length : Int)) = true := decide_eq_true c47
                       clear c47
                       by_cases c48 : x19_3.length < 4398046511104
                       ·rw [if_pos c48] at H
                        have LMc48 := a_ c48
                        clear c48
                        obtain ⟨y862, hy862⟩ : ∃ y_ : List (S51), y_ = (x19_3 ++ [(⟨(⟨ji34, wrap64 ((rd l0 x70_3) + (rd l1 (ji35)))⟩ : S49), (⟨ji44, wrap64 ((wrap64 (x21_3 + (rd l0 x70_3))) + (rd l1 (ji45)))⟩ : S49)⟩ : S51)]) := ⟨_, rfl⟩
                        replace H : (if x20_3.length < 17592186044416 then (waterhourlaw04_RefillTruth.l1 k3 l1 l2 a3 a4 a5 a6 a7 y862 (x20_3 ++ [wrap64 (x21_3 + (rd l0 x70_3))]) (wrap64 (x21_3 + (rd l0 x70_3))) l0 (l0.length : Int) (wrap64 (x70_3 + 1))) else (none)) = some r := by first | (rw [hy862]; with_reducible exact H) | (have H2_ := (Option.bind_some _ _).symm.trans H; rw [hy862]; with_reducible exact H2_) | (have H2_ := (Option.bind_some _ _).symm.trans H; with_reducible exact H2_) | with_reducible exact H | (rw [hy862]; exact H) | exact H
                        have Ny862 := a_ hy862
                        clear hy862
                        by_cases c49 : x20_3.length < 17592186044416
                        ·rw [if_pos c49] at H
                         have LMc49 := a_ c49
                         clear c49
                         obtain ⟨y865, hy865⟩ : ∃ y_ : List Int, y_ = (x20_3 ++ [wrap64 (x21_3 + (rd l0 x70_3))]) := ⟨_, rfl⟩
                         replace H : (waterhourlaw04_RefillTruth.l1 k3 l1 l2 a3 a4 a5 a6 a7 y862 y865 (wrap64 (x21_3 + (rd l0 x70_3))) l0 (l0.length : Int) (wrap64 (x70_3 + 1))) = some r := by first | (rw [hy865]; with_reducible exact H) | (have H2_ := (Option.bind_some _ _).symm.trans H; rw [hy865]; with_reducible exact H2_) | (have H2_ := (Option.bind_some _ _).symm.trans H; with_reducible exact H2_) | with_reducible exact H | (rw [hy865]; exact H) | exact H
                         have Ny865 := a_ hy865
                         clear hy865
                         have H' := a_ H
                         clear H
                         have p855 : 0 ≤ (x70_3 : Int) := of_decide_eq_true (by first | (with_reducible assumption) | assumption)
                         have q855 : x70_3 < (l0.length : Int) := of_decide_eq_true (by first | (with_reducible assumption) | assumption)
                         obtain ⟨ad855, e855, hx855_0⟩ := Kd.at_int (Kd.V_reads' HO_68.out).2.2 x70_3 p855 q855
                         cases e855
                         replace p855 := eq_true p855
                         replace q855 := eq_true q855
                         try go_wp2
                         have n0_ := a_ (Kd.V_drew HO_1.out)
                         have n1_ := a_ (Kd.R_drew HO_19.out)
                         have n2_ := a_ (Kd.R_drew HO_20.out)
                         have n3_ := a_ (Kd.V_drew HO_68.out)
                         have n4_ := a_ (below_drew1 HB.out)
                         clear HO_1
                         clear HO_19
                         clear HO_20
                         clear HO_68
                         clear HB
                         have HO_1 := n0_
                         have HO_19 := n1_
                         have HO_20 := n2_
                         have HO_68 := n3_
                         have HB := n4_
                         clear n0_ n1_ n2_ n3_ n4_
                         have p856 : 0 ≤ ((ji31) : Int) := of_decide_eq_true (by first | (with_reducible assumption) | assumption)
                         have q856 : (ji31) < (l1.length : Int) := of_decide_eq_true (by first | (with_reducible assumption) | assumption)
                         obtain ⟨ad856, e856, hx856_0⟩ := Kd.at_int (Kd.V_reads' HO_1.out).2.2 (ji31) p856 q856
                         cases e856
                         replace p856 := eq_true p856
                         replace q856 := eq_true q856
                         have p857 : 0 ≤ ((ji35) : Int) := of_decide_eq_true (by first | (with_reducible assumption) | assumption)
                         have q857 : (ji35) < (l1.length : Int) := of_decide_eq_true (by first | (with_reducible assumption) | assumption)
                         obtain ⟨ad857, e857, hx857_0⟩ := Kd.at_int (Kd.V_reads' HO_1.out).2.2 (ji35) p857 q857
                         obtain rfl : ad856 = ad857 := (by injection e857)
                         replace p857 := eq_true p857
                         replace q857 := eq_true q857
                         refine start_ (n := 21) (S := fun w' => w'.cell? (ad856.add ((ji31)).toNat) = some (.int .i64 (rd l1 (ji31))) ∧ w'.cell? (ad856.add ((ji35)).toNat) = some (.int .i64 (rd l1 (ji35)))) (ds := []) #[false, false, false, false, false, false, false, false, false, false, false, false, false, false, false, false, false, false, false, false, false] (by kernel_rfl) rfl rfl ⟨hx856_0, hx857_0⟩ (fun hHeld => ?_); refine with_tabW waterhourlaw04_RefillTruth.tab18 waterhourlaw04_RefillTruth.bits18 (fun HT_ HW_ => ?_)
                         generalize wr.drew = w50 at HO_1 HO_19 HO_20 HO_68 HB hx856_0 hx857_0 hHeld ⊢
                         refine pz_ 0 78 HT_ ?_
                         refine pz_ 1 79 HT_ ?_
                         refine pz_ 2 80 HT_ ?_
                         refine pz_ 3 81 HT_ ?_
                         refine pz_ 4 82 HT_ ?_
                         refine pz_ 8 86 HT_ ?_
                         refine pz_ 9 87 HT_ ?_
                         refine pz_ 10 88 HT_ ?_
                         refine pz_ 11 89 HT_ ?_
                         refine pz_ 12 90 HT_ ?_
                         refine pz_ 13 91 HT_ ?_
                         refine pz_ 17 95 HT_ ?_
                         refine take_ (i := 5) (N := some 83) (v := ?_) (a' := ?_) #[true, true, true, true, true, true, false, false, true, true, true, true, true, true, false, false, false, true, false, false, false] rfl rfl (take_ofW HT_.out HW_.out (by kernel_rfl)) (fun _ _ _ h => h) (Or.inl ⟨by rfl, ?_⟩) hHeld ?_ ?_
                         rotate_left
                         ·rintro w' ⟨s0, s1⟩
                          go_simp
                          with_reducible rfl
                         rotate_left
                         ·simp only [Act.put, List.setIfInBounds_toArray, List.set_cons_zero, List.set_cons_succ, i64_w, i32_w]
                          rfl
                         refine pz_ 6 84 HT_ ?_
                         refine pz_ 7 85 HT_ ?_
                         refine take_ (i := 14) (N := some 92) (v := ?_) (a' := ?_) #[true, true, true, true, true, true, true, true, true, true, true, true, true, true, true, false, false, true, false, false, false] rfl rfl (take_ofW HT_.out HW_.out (by kernel_rfl)) (fun _ _ _ h => h) (Or.inl ⟨by rfl, ?_⟩) hHeld ?_ ?_
                         rotate_left
                         ·rintro w' ⟨s0, s1⟩
                          go_simp
                          with_reducible rfl
                         rotate_left
                         ·simp only [Act.put, List.setIfInBounds_toArray, List.set_cons_zero, List.set_cons_succ, i64_w, i32_w]
                          rfl
                         refine pz_ 15 93 HT_ ?_
                         refine pz_ 16 94 HT_ ?_
                         refine pz_ 18 96 HT_ ?_
                         refine one_ (i := 19) (N := some 24) #[true, true, true, true, true, true, true, true, true, true, true, true, true, true, true, true, true, true, true, true, false] rfl rfl (one_of HT_.out (by kernel_rfl)) (by decide) (fun K hK => ?_)
                         refine box_step ?hg (N := 24) ?hd (cs := #[.int .i64 0, .int .i64 0, .int .i64 0, .int .i64 0]) (t := 51) ?hr ?_; (case hd => rfl); (case hg => rfl); (case hr => first | (go_simp; done) | (go_simp; rfl))
                         intro gb858 hg w51 hbox hb
                         have HS0_ := (hb.cell (World.block_lt_of_cell? _ _ (hHeld.1))).trans (hHeld.1)
                         have HS1_ := (hb.cell (World.block_lt_of_cell? _ _ (hHeld.2))).trans (hHeld.2)
                         have n0_ := a_ (Kd.V_below (Kd.V_elderB (vl_ HO_1.out) gb858 (Nat.le_of_eq hg.symm)) hb)
                         have n1_ := a_ (Kd.R_below (Kd.R_elderB (rl_ HO_19.out) gb858 (Nat.le_of_eq hg.symm)) hb)
                         have n2_ := a_ (Kd.R_below (rl_ HO_20.out) hb)
                         have n3_ := a_ (Kd.V_below (Kd.V_elderB (vl_ HO_68.out) gb858 (Nat.le_of_eq hg.symm)) hb)
                         have n4_ := a_ (below_step bl_ hb)
                         have n5_ := a_ (hbox)
                         have n6_ := a_ ((bz_ (w := w) hg))
                         have n7_ := a_ ((bz_ (w := w) hg))
                         clear HO_1
                         clear HO_19
                         clear HO_20
                         clear HO_68
                         clear HB
                         have HO_1 := n0_
                         have HO_19 := n1_
                         have HO_20 := n2_
                         have HO_68 := n3_
                         have HB := n4_
                         have BK858 := n5_
                         have GW858 := n6_
                         have GE858 := n7_
                         clear n0_ n1_ n2_ n3_ n4_ n5_ n6_ n7_
                         clear hb hbox hg
                         refine hK.out _ _ ⟨HS0_, HS1_⟩ (fun hHeld => ?_)
                         clear hK K
                         refine norm_ (a' := ?_) ?_ ?_
                         rotate_left
                         ·show Act.put _ (some 24) _ = _
                          simp only [Act.put, List.setIfInBounds_toArray, List.set_cons_zero, List.set_cons_succ, i64_w, i32_w]
                          rfl
                         refine one_ (i := 20) (N := none) #[true, true, true, true, true, true, true, true, true, true, true, true, true, true, true, true, true, true, true, true, true] rfl rfl (one_of HT_.out (by kernel_rfl)) (by decide) (fun K hK => ?_)
                         have hs52 : w51.cell? ⟨gb858, 0, none⟩ = some (.int .i64 0) := (blk_cell BK858.out 0).trans rfl
                         have hfs52 := blk_frozen BK858.out 0
                         have hs53 : w51.cell? ⟨gb858, 1, none⟩ = some (.int .i64 0) := (blk_cell BK858.out 1).trans rfl
                         have hfs53 := blk_frozen BK858.out 1
                         have hs54 : w51.cell? ⟨gb858, 2, none⟩ = some (.int .i64 0) := (blk_cell BK858.out 2).trans rfl
                         have hfs54 := blk_frozen BK858.out 2
                         have hs55 : w51.cell? ⟨gb858, 3, none⟩ = some (.int .i64 0) := (blk_cell BK858.out 3).trans rfl
                         have hfs55 := blk_frozen BK858.out 3
                         refine skip_ (w1 := ?_) (by rfl) rfl ?_ ?_
                         rotate_left
                         ·go_simp
                          rfl
                         refine hK.out _ _ ⟨vcell_int (Kd.V_far (Kd.V_far (Kd.V_far (Kd.V_far HO_1.out (fun _ hk => hk.2) _) (fun _ hk => hk.2) _) (fun _ hk => hk.2) _) (fun _ hk => hk.2) _) p856 q856, vcell_int (Kd.V_far (Kd.V_far (Kd.V_far (Kd.V_far HO_1.out (fun _ hk => hk.2) _) (fun _ hk => hk.2) _) (fun _ hk => hk.2) _) (fun _ hk => hk.2) _) p857 q857⟩ (fun hHeld => ?_)
                         clear hK K
                         refine done_ (done_of HT_.out (by kernel_rfl)) ?_
                         have p859 : 0 ≤ (x70_3 : Int) := of_decide_eq_true (by first | (with_reducible assumption) | assumption)
                         have q859 : x70_3 < (l2.length : Int) := of_decide_eq_true (by first | (with_reducible assumption) | assumption)
                         obtain ⟨ad859, e859, hx859_0⟩ := Kd.at_bool HR2.out x70_3 p859 q859
                         (try rw [← Nbq39.out] at hx859_0)
                         cases e859
                         have hn859_0 : ad859.block ≠ gb858 := Nat.ne_of_lt (Nat.lt_of_lt_of_le (by have := World.block_lt_of_cell? _ _ hx859_0; first | rwa [add_block] at this | exact this) GW858.out)
                         have hn859_1 : ad859.block ≠ gb858 := Nat.ne_of_lt (Nat.lt_of_lt_of_le (by have := World.block_lt_of_cell? _ _ hx859_0; first | rwa [add_block] at this | exact this) GW858.out)
                         have hn859_2 : ad859.block ≠ gb858 := Nat.ne_of_lt (Nat.lt_of_lt_of_le (by have := World.block_lt_of_cell? _ _ hx859_0; first | rwa [add_block] at this | exact this) GW858.out)
                         have hn859_3 : ad859.block ≠ gb858 := Nat.ne_of_lt (Nat.lt_of_lt_of_le (by have := World.block_lt_of_cell? _ _ hx859_0; first | rwa [add_block] at this | exact this) GW858.out)
                         replace hx859_0 := (HB.out.cell (World.block_lt_of_cell? w _ hx859_0)).trans hx859_0
                         replace hx859_0 := (cell_far (p := ⟨gb858, 0, none⟩) (by first | (rw [add_block]; exact hn859_0) | (show (Addr.add _ _).block ≠ _; rw [add_block]; exact hn859_0) | exact hn859_0) (.int .i64 ji34)).trans hx859_0
                         replace hx859_0 := (cell_far (p := ⟨gb858, 1, none⟩) (by first | (rw [add_block]; exact hn859_1) | (show (Addr.add _ _).block ≠ _; rw [add_block]; exact hn859_1) | exact hn859_1) (.int .i64 (wrap64 ((rd l0 x70_3) + (rd l1 (ji35)))))).trans hx859_0
                         replace hx859_0 := (cell_far (p := ⟨gb858, 2, none⟩) (by first | (rw [add_block]; exact hn859_2) | (show (Addr.add _ _).block ≠ _; rw [add_block]; exact hn859_2) | exact hn859_2) (.int .i64 1)).trans hx859_0
                         replace hx859_0 := (cell_far (p := ⟨gb858, 3, none⟩) (by first | (rw [add_block]; exact hn859_3) | (show (Addr.add _ _).block ≠ _; rw [add_block]; exact hn859_3) | exact hn859_3) (.int .i64 0)).trans hx859_0
                         clear hn859_0
                         clear hn859_1
                         clear hn859_2
                         clear hn859_3
                         replace p859 := eq_true p859
                         replace q859 := eq_true q859
                         try go_wp2
                         have n0_ : Aside0 (Kd.V (Kd.int .i64) 3 ((((w51.setCell ⟨gb858, 0, none⟩ (.int .i64 ji34)).setCell ⟨gb858, 1, none⟩ (.int .i64 (wrap64 ((rd l0 x70_3) + (rd l1 (ji35)))))).setCell ⟨gb858, 2, none⟩ (.int .i64 1)).setCell ⟨gb858, 3, none⟩ (.int .i64 0)) w.heap.size (fun k_ => ((P0_ k_ ∨ P1_ k_) ∨ w.heap.size ≤ k_) ∧ some k_ ≠ (u19 : Value).ownBlock ∧ some k_ ≠ (u20 : Value).ownBlock ∧ k_ ≠ gb858) (.slice (some ad856) l1.length c1) l1) := ⟨by (with_reducible repeat (first | apply Kd.V_alloc | apply Kd.V_drewN | apply Kd.V_drew)); exact Kd.V_mono (Kd.V_far (p := ⟨gb858, 3, none⟩) (Kd.V_far (p := ⟨gb858, 2, none⟩) (Kd.V_far (p := ⟨gb858, 1, none⟩) (Kd.V_far (p := ⟨gb858, 0, none⟩) (Kd.V_mono HO_1.out (fun k_ hk => (⟨hk, hk.2⟩ : _ ∧ k_ ≠ gb858))) (fun _ hk => hk.2) (.int .i64 ji34)) (fun _ hk => hk.2) (.int .i64 (wrap64 ((rd l0 x70_3) + (rd l1 (ji35)))))) (fun _ hk => hk.2) (.int .i64 1)) (fun _ hk => hk.2) (.int .i64 0)) (fun _ hk => ⟨hk.1.1.1, ⟨hk.1.1.2.1, ⟨hk.1.1.2.2, hk.1.2⟩⟩⟩)⟩
                         have n1_ : Aside0 (Kd.R k51 51 ((((w51.setCell ⟨gb858, 0, none⟩ (.int .i64 ji34)).setCell ⟨gb858, 1, none⟩ (.int .i64 (wrap64 ((rd l0 x70_3) + (rd l1 (ji35)))))).setCell ⟨gb858, 2, none⟩ (.int .i64 1)).setCell ⟨gb858, 3, none⟩ (.int .i64 0)) w.heap.size (fun k_ => (w.heap.size ≤ k_) ∧ k_ ≠ gb858) u19 x19_3) := ⟨by (with_reducible repeat (first | apply Kd.R_alloc | apply Kd.R_drewN | apply Kd.R_drew)); exact Kd.R_mono (Kd.R_far (p := ⟨gb858, 3, none⟩) (Kd.R_far (p := ⟨gb858, 2, none⟩) (Kd.R_far (p := ⟨gb858, 1, none⟩) (Kd.R_far (p := ⟨gb858, 0, none⟩) (Kd.R_mono HO_19.out (fun k_ hk => (⟨hk, hk.2⟩ : _ ∧ k_ ≠ gb858))) (fun _ hk => hk.2) (.int .i64 ji34)) (fun _ hk => hk.2) (.int .i64 (wrap64 ((rd l0 x70_3) + (rd l1 (ji35)))))) (fun _ hk => hk.2) (.int .i64 1)) (fun _ hk => hk.2) (.int .i64 0)) (fun _ hk => ⟨hk.1.1, hk.1.2⟩)⟩
                         have n2_ : Aside0 (Kd.R (Kd.int .i64) 3 ((((w51.setCell ⟨gb858, 0, none⟩ (.int .i64 ji34)).setCell ⟨gb858, 1, none⟩ (.int .i64 (wrap64 ((rd l0 x70_3) + (rd l1 (ji35)))))).setCell ⟨gb858, 2, none⟩ (.int .i64 1)).setCell ⟨gb858, 3, none⟩ (.int .i64 0)) w.heap.size (fun k_ => (w.heap.size ≤ k_)) u20 x20_3) := ⟨by (with_reducible repeat (first | apply Kd.R_alloc | apply Kd.R_drewN | apply Kd.R_drew)); exact Kd.R_mono (Kd.R_far (p := ⟨gb858, 3, none⟩) (Kd.R_far (p := ⟨gb858, 2, none⟩) (Kd.R_far (p := ⟨gb858, 1, none⟩) (Kd.R_far (p := ⟨gb858, 0, none⟩) (Kd.R_types HO_20.out BK858.out (by decide)) (fun _ hk => hk.2) (.int .i64 ji34)) (fun _ hk => hk.2) (.int .i64 (wrap64 ((rd l0 x70_3) + (rd l1 (ji35)))))) (fun _ hk => hk.2) (.int .i64 1)) (fun _ hk => hk.2) (.int .i64 0)) (fun _ hk => hk.1)⟩
                         have n3_ : Aside0 (Kd.V (Kd.int .i64) 3 ((((w51.setCell ⟨gb858, 0, none⟩ (.int .i64 ji34)).setCell ⟨gb858, 1, none⟩ (.int .i64 (wrap64 ((rd l0 x70_3) + (rd l1 (ji35)))))).setCell ⟨gb858, 2, none⟩ (.int .i64 1)).setCell ⟨gb858, 3, none⟩ (.int .i64 0)) w.heap.size (fun k_ => ((P0_ k_ ∨ P1_ k_) ∨ w.heap.size ≤ k_) ∧ some k_ ≠ (u19 : Value).ownBlock ∧ some k_ ≠ (u20 : Value).ownBlock ∧ k_ ≠ gb858) (.slice (some ad855) l0.length c0) l0) := ⟨by (with_reducible repeat (first | apply Kd.V_alloc | apply Kd.V_drewN | apply Kd.V_drew)); exact Kd.V_mono (Kd.V_far (p := ⟨gb858, 3, none⟩) (Kd.V_far (p := ⟨gb858, 2, none⟩) (Kd.V_far (p := ⟨gb858, 1, none⟩) (Kd.V_far (p := ⟨gb858, 0, none⟩) (Kd.V_mono HO_68.out (fun k_ hk => (⟨hk, hk.2⟩ : _ ∧ k_ ≠ gb858))) (fun _ hk => hk.2) (.int .i64 ji34)) (fun _ hk => hk.2) (.int .i64 (wrap64 ((rd l0 x70_3) + (rd l1 (ji35)))))) (fun _ hk => hk.2) (.int .i64 1)) (fun _ hk => hk.2) (.int .i64 0)) (fun _ hk => ⟨hk.1.1.1, ⟨hk.1.1.2.1, ⟨hk.1.1.2.2, hk.1.2⟩⟩⟩)⟩
                         have n4_ : Aside0 (((((w51.setCell ⟨gb858, 0, none⟩ (.int .i64 ji34)).setCell ⟨gb858, 1, none⟩ (.int .i64 (wrap64 ((rd l0 x70_3) + (rd l1 (ji35)))))).setCell ⟨gb858, 2, none⟩ (.int .i64 1)).setCell ⟨gb858, 3, none⟩ (.int .i64 0)).heap[gb858]? = some (.cells #[.int .i64 ji34, .int .i64 (wrap64 ((rd l0 x70_3) + (rd l1 (ji35)))), .int .i64 1, .int .i64 0] 51 (0, 0))) := ⟨by (with_reducible repeat (first | refine blk_drewN ?_ _ | refine blk_drew ?_ | refine blk_alloc ?_ _)); refine blk_put (cs := #[.int .i64 ji34, .int .i64 (wrap64 ((rd l0 x70_3) + (rd l1 (ji35)))), .int .i64 1, .int .i64 0]) ?_ 3 _ rfl; (with_reducible repeat (first | refine blk_drewN ?_ _ | refine blk_drew ?_ | refine blk_alloc ?_ _)); refine blk_put (cs := #[.int .i64 ji34, .int .i64 (wrap64 ((rd l0 x70_3) + (rd l1 (ji35)))), .int .i64 0, .int .i64 0]) ?_ 2 _ rfl; (with_reducible repeat (first | refine blk_drewN ?_ _ | refine blk_drew ?_ | refine blk_alloc ?_ _)); refine blk_put (cs := #[.int .i64 ji34, .int .i64 0, .int .i64 0, .int .i64 0]) ?_ 1 _ rfl; (with_reducible repeat (first | refine blk_drewN ?_ _ | refine blk_drew ?_ | refine blk_alloc ?_ _)); refine blk_put (cs := #[.int .i64 0, .int .i64 0, .int .i64 0, .int .i64 0]) ?_ 0 _ rfl; (with_reducible repeat (first | refine blk_drewN ?_ _ | refine blk_drew ?_ | refine blk_alloc ?_ _)); exact BK858.out⟩
                         have n5_ : Aside0 (Below w.heap.size w ((((w51.setCell ⟨gb858, 0, none⟩ (.int .i64 ji34)).setCell ⟨gb858, 1, none⟩ (.int .i64 (wrap64 ((rd l0 x70_3) + (rd l1 (ji35)))))).setCell ⟨gb858, 2, none⟩ (.int .i64 1)).setCell ⟨gb858, 3, none⟩ (.int .i64 0))) := ⟨bl_⟩
                         (try clear HO_1)
                         (try clear HO_19)
                         (try clear HO_20)
                         (try clear HO_68)
                         (try clear BK858)
                         (try clear HB)
                         generalize ((((w51.setCell ⟨gb858, 0, none⟩ (.int .i64 ji34)).setCell ⟨gb858, 1, none⟩ (.int .i64 (wrap64 ((rd l0 x70_3) + (rd l1 (ji35)))))).setCell ⟨gb858, 2, none⟩ (.int .i64 1)).setCell ⟨gb858, 3, none⟩ (.int .i64 0)) = w56 at n0_ n1_ n2_ n3_ n4_ n5_ ⊢
                         have HO_1 := n0_
                         have HO_19 := n1_
                         have HO_20 := n2_
                         have HO_68 := n3_
                         have BK858 := n4_
                         have HB := n5_
                         clear n0_ n1_ n2_ n3_ n4_ n5_
                         have n0_ := a_ (Kd.V_drew HO_1.out)
                         have n1_ := a_ (Kd.R_drew HO_19.out)
                         have n2_ := a_ (Kd.R_drew HO_20.out)
                         have n3_ := a_ (Kd.V_drew HO_68.out)
                         have n4_ := a_ (blk_drew BK858.out)
                         have n5_ := a_ (below_drew1 HB.out)
                         clear HO_1
                         clear HO_19
                         clear HO_20
                         clear HO_68
                         clear BK858
                         clear HB
                         have HO_1 := n0_
                         have HO_19 := n1_
                         have HO_20 := n2_
                         have HO_68 := n3_
                         have BK858 := n4_
                         have HB := n5_
                         clear n0_ n1_ n2_ n3_ n4_ n5_
                         have p860 : 0 ≤ ((ji41) : Int) := of_decide_eq_true (by first | (with_reducible assumption) | assumption)
                         have q860 : (ji41) < (l1.length : Int) := of_decide_eq_true (by first | (with_reducible assumption) | assumption)
                         obtain ⟨ad860, e860, hx860_0⟩ := Kd.at_int (Kd.V_reads' HO_1.out).2.2 (ji41) p860 q860
                         obtain rfl : ad856 = ad860 := (by injection e860)
                         replace p860 := eq_true p860
                         replace q860 := eq_true q860
                         have p861 : 0 ≤ ((ji45) : Int) := of_decide_eq_true (by first | (with_reducible assumption) | assumption)
                         have q861 : (ji45) < (l1.length : Int) := of_decide_eq_true (by first | (with_reducible assumption) | assumption)
                         obtain ⟨ad861, e861, hx861_0⟩ := Kd.at_int (Kd.V_reads' HO_1.out).2.2 (ji45) p861 q861
                         obtain rfl : ad856 = ad861 := (by injection e861)
                         replace p861 := eq_true p861
                         replace q861 := eq_true q861
                         refine start_ (n := 20) (S := fun w' => w'.cell? (ad856.add ((ji41)).toNat) = some (.int .i64 (rd l1 (ji41))) ∧ w'.cell? (ad856.add ((ji45)).toNat) = some (.int .i64 (rd l1 (ji45)))) (ds := []) #[false, false, false, false, false, false, false, false, false, false, false, false, false, false, false, false, false, false, false, false] (by kernel_rfl) rfl rfl ⟨hx860_0, hx861_0⟩ (fun hHeld => ?_); refine with_tabW waterhourlaw04_RefillTruth.tab20 waterhourlaw04_RefillTruth.bits20 (fun HT_ HW_ => ?_)
                         generalize w56.drew = w57 at HO_1 HO_19 HO_20 HO_68 BK858 HB hx860_0 hx861_0 hHeld ⊢
                         refine pz_ 0 101 HT_ ?_
                         refine pz_ 1 102 HT_ ?_
                         refine pz_ 2 103 HT_ ?_
                         refine pz_ 3 104 HT_ ?_
                         refine pz_ 4 105 HT_ ?_
                         refine pz_ 5 106 HT_ ?_
                         refine pz_ 9 110 HT_ ?_
                         refine pz_ 10 111 HT_ ?_
                         refine pz_ 11 112 HT_ ?_
                         refine pz_ 12 113 HT_ ?_
                         refine pz_ 13 114 HT_ ?_
                         refine pz_ 14 115 HT_ ?_
                         refine take_ (i := 6) (N := some 107) (v := ?_) (a' := ?_) #[true, true, true, true, true, true, true, false, false, true, true, true, true, true, true, false, false, false, false, false] rfl rfl (take_ofW HT_.out HW_.out (by kernel_rfl)) (fun _ _ _ h => h) (Or.inl ⟨by rfl, ?_⟩) hHeld ?_ ?_
                         rotate_left
                         ·rintro w' ⟨s0, s1⟩
                          go_simp
                          with_reducible rfl
                         rotate_left
                         ·simp only [Act.put, List.setIfInBounds_toArray, List.set_cons_zero, List.set_cons_succ, i64_w, i32_w]
                          rfl
                         refine pz_ 7 108 HT_ ?_
                         refine pz_ 8 109 HT_ ?_
                         refine take_ (i := 15) (N := some 116) (v := ?_) (a' := ?_) #[true, true, true, true, true, true, true, true, true, true, true, true, true, true, true, true, false, false, false, false] rfl rfl (take_ofW HT_.out HW_.out (by kernel_rfl)) (fun _ _ _ h => h) (Or.inl ⟨by rfl, ?_⟩) hHeld ?_ ?_
                         rotate_left
                         ·rintro w' ⟨s0, s1⟩
                          go_simp
                          with_reducible rfl
                         rotate_left
                         ·simp only [Act.put, List.setIfInBounds_toArray, List.set_cons_zero, List.set_cons_succ, i64_w, i32_w]
                          rfl
                         refine pz_ 16 117 HT_ ?_
                         refine pz_ 17 118 HT_ ?_
                         refine pz_ 18 119 HT_ ?_
                         refine one_ (i := 19) (N := none) #[true, true, true, true, true, true, true, true, true, true, true, true, true, true, true, true, true, true, true, true] rfl rfl (one_of HT_.out (by kernel_rfl)) (by decide) (fun K hK => ?_)
                         have hs58 : w57.cell? ⟨gb858, 2, none⟩ = some (.int .i64 1) := (blk_cell BK858.out 2).trans rfl
                         have hfs58 := blk_frozen BK858.out 2
                         have hs59 : w57.cell? ⟨gb858, 3, none⟩ = some (.int .i64 0) := (blk_cell BK858.out 3).trans rfl
                         have hfs59 := blk_frozen BK858.out 3
                         refine skip_ (w1 := ?_) (by rfl) rfl ?_ ?_
                         rotate_left
                         ·go_simp
                          rfl
                         refine hK.out _ _ ⟨vcell_int (Kd.V_far (Kd.V_far HO_1.out (fun _ hk => hk.2.2.2) _) (fun _ hk => hk.2.2.2) _) p860 q860, vcell_int (Kd.V_far (Kd.V_far HO_1.out (fun _ hk => hk.2.2.2) _) (fun _ hk => hk.2.2.2) _) p861 q861⟩ (fun hHeld => ?_)
                         clear hK K
                         refine done_ (done_of HT_.out (by kernel_rfl)) ?_
                         have hcz60_0 : w57.cell? ⟨gb858, 0, none⟩ = some (.int .i64 ji34) := (blk_cell BK858.out 0).trans rfl
                         have hcz60_1 : w57.cell? ⟨gb858, 1, none⟩ = some (.int .i64 (wrap64 ((rd l0 x70_3) + (rd l1 (ji35))))) := (blk_cell BK858.out 1).trans rfl
                         have hcz60_2 : w57.cell? ⟨gb858, 2, none⟩ = some (.int .i64 1) := (blk_cell BK858.out 2).trans rfl
                         have hcz60_3 : w57.cell? ⟨gb858, 3, none⟩ = some (.int .i64 0) := (blk_cell BK858.out 3).trans rfl
                         have hfz60_0 := blk_frozen BK858.out 0
                         have hfz60_1 := blk_frozen BK858.out 1
                         have hfz60_2 := blk_frozen BK858.out 2
                         have hfz60_3 := blk_frozen BK858.out 3
                         try go_wp2_with (first | ((with_reducible refine gate_builtin (b := .append) (xs := #[.tmp 120, .tmp 122]) rfl ?_); (try (refine gate_guard (by rfl) ?_; dsimp only)); at_builtin; refine Kd.R_append k51 (w0 := w) w.heap.size rfl (.tmp 120) (.tmp 122) 23 51 (.agg #[(.int .i64 0), (.int .i64 0), (.int .i64 0), (.int .i64 0)]) 32 rfl Tryd.underlying23 info51 rfl (by decide) (by omega) u19 x19_3 (⟨(⟨ji34, wrap64 ((rd l0 x70_3) + (rd l1 (ji35)))⟩ : S49), (⟨ji44, wrap64 ((wrap64 (x21_3 + (rd l0 x70_3))) + (rd l1 (ji45)))⟩ : S49)⟩ : S51) [.int .i64 ji34, .int .i64 (wrap64 ((rd l0 x70_3) + (rd l1 (ji35)))), .int .i64 ji44, .int .i64 (wrap64 ((wrap64 (x21_3 + (rd l0 x70_3))) + (rd l1 (ji45))))] (fun k_ => (w.heap.size ≤ k_) ∧ k_ ≠ gb858) (fun _ => False) rfl (by first | (go_simp; done) | (go_simp; rfl)) ?aP (fun _ hk => hk.elim) ?aF ?aO ?aB ?aS ?aL ?_; (case aP => exact k51_mkM _ _ _ (⟨(⟨ji34, wrap64 ((rd l0 x70_3) + (rd l1 (ji35)))⟩ : S49), (⟨ji44, wrap64 ((wrap64 (x21_3 + (rd l0 x70_3))) + (rd l1 (ji45)))⟩ : S49)⟩ : S51)); (case aB => exact bl_); (case aF => exact (fun k_ hk => ⟨(Nat.le_trans (below_size bl_) hk), Kd.freshB (g := gb858) (o := .cells #[.int .i64 ji34, .int .i64 (wrap64 ((rd l0 x70_3) + (rd l1 (ji35)))), .int .i64 ji44, .int .i64 (wrap64 ((wrap64 (x21_3 + (rd l0 x70_3))) + (rd l1 (ji45))))] 51 (0, 0)) (by (with_reducible repeat (first | refine blk_drewN ?_ _ | refine blk_drew ?_ | refine blk_alloc ?_ _)); refine blk_put (cs := #[.int .i64 ji34, .int .i64 (wrap64 ((rd l0 x70_3) + (rd l1 (ji35)))), .int .i64 ji44, .int .i64 0]) ?_ 3 _ rfl; (with_reducible repeat (first | refine blk_drewN ?_ _ | refine blk_drew ?_ | refine blk_alloc ?_ _)); refine blk_put (cs := #[.int .i64 ji34, .int .i64 (wrap64 ((rd l0 x70_3) + (rd l1 (ji35)))), .int .i64 1, .int .i64 0]) ?_ 2 _ rfl; (with_reducible repeat (first | refine blk_drewN ?_ _ | refine blk_drew ?_ | refine blk_alloc ?_ _)); exact BK858.out) k_ hk⟩)); (case aO => exact (by (with_reducible repeat (first | apply Kd.R_alloc | apply Kd.R_drewN | apply Kd.R_drew)); exact Kd.R_mono (Kd.R_far (p := ⟨gb858, 3, none⟩) (Kd.R_far (p := ⟨gb858, 2, none⟩) (Kd.R_mono HO_19.out (fun k_ hk => (⟨hk, hk.2⟩ : _ ∧ k_ ≠ gb858))) (fun _ hk => hk.2) (.int .i64 ji44)) (fun _ hk => hk.2) (.int .i64 (wrap64 ((wrap64 (x21_3 + (rd l0 x70_3))) + (rd l1 (ji45)))))) (fun _ hk => ⟨hk.1.1, hk.1.2⟩))); (case aS => exact (below_size bl_)); (case aL => have := LMc48.out; omega); intro v863 w61 ho hb hg hat; rw [← Ny862.out] at ho; have n0_ := a_ (Kd.V_afterv (ok := (fun k_ => ((P0_ k_ ∨ P1_ k_) ∨ w.heap.size ≤ k_) ∧ some k_ ≠ (u20 : Value).ownBlock ∧ k_ ≠ gb858)) (by (with_reducible repeat (first | apply Kd.V_alloc | apply Kd.V_drewN | apply Kd.V_drew)); exact Kd.V_mono (Kd.V_far (p := ⟨gb858, 3, none⟩) (Kd.V_far (p := ⟨gb858, 2, none⟩) (Kd.V_mono HO_1.out (fun k_ hk => (⟨hk, hk.2.2.2⟩ : _ ∧ k_ ≠ gb858))) (fun _ hk => hk.2) (.int .i64 ji44)) (fun _ hk => hk.2) (.int .i64 (wrap64 ((wrap64 (x21_3 + (rd l0 x70_3))) + (rd l1 (ji45)))))) (fun _ hk => ⟨⟨hk.1.1, ⟨hk.1.2.2.1, hk.1.2.2.2⟩⟩, hk.1.2.1⟩)) hg hat); have n1_ := a_ (Kd.R_over' ((by (with_reducible repeat (first | apply Kd.R_alloc | apply Kd.R_drewN | apply Kd.R_drew)); exact Kd.R_mono (Kd.R_far (p := ⟨gb858, 3, none⟩) (Kd.R_far (p := ⟨gb858, 2, none⟩) (Kd.R_types HO_20.out BK858.out (by decide)) (fun _ hk => hk.2) (.int .i64 ji44)) (fun _ hk => hk.2) (.int .i64 (wrap64 ((wrap64 (x21_3 + (rd l0 x70_3))) + (rd l1 (ji45)))))) (fun _ h_ => h_.1))) (Kd.R_typed (by (with_reducible repeat (first | apply Kd.R_alloc | apply Kd.R_drewN | apply Kd.R_drew)); exact (Kd.R_mono (Kd.R_far (p := ⟨gb858, 3, none⟩) (Kd.R_far (p := ⟨gb858, 2, none⟩) (Kd.R_mono HO_19.out (fun k_ hk => (⟨hk, hk.2⟩ : _ ∧ k_ ≠ gb858))) (fun _ hk => hk.2) (.int .i64 ji44)) (fun _ hk => hk.2) (.int .i64 (wrap64 ((wrap64 (x21_3 + (rd l0 x70_3))) + (rd l1 (ji45)))))) (fun _ h_ => h_.1)))) (by decide) hg); have n2_ := a_ (Kd.V_afterv (ok := (fun k_ => ((P0_ k_ ∨ P1_ k_) ∨ w.heap.size ≤ k_) ∧ some k_ ≠ (u20 : Value).ownBlock ∧ k_ ≠ gb858)) (by (with_reducible repeat (first | apply Kd.V_alloc | apply Kd.V_drewN | apply Kd.V_drew)); exact Kd.V_mono (Kd.V_far (p := ⟨gb858, 3, none⟩) (Kd.V_far (p := ⟨gb858, 2, none⟩) (Kd.V_mono HO_68.out (fun k_ hk => (⟨hk, hk.2.2.2⟩ : _ ∧ k_ ≠ gb858))) (fun _ hk => hk.2) (.int .i64 ji44)) (fun _ hk => hk.2) (.int .i64 (wrap64 ((wrap64 (x21_3 + (rd l0 x70_3))) + (rd l1 (ji45)))))) (fun _ hk => ⟨⟨hk.1.1, ⟨hk.1.2.2.1, hk.1.2.2.2⟩⟩, hk.1.2.1⟩)) hg hat); have n3_ := a_ (blk_grown (g := gb858) (o := .cells #[.int .i64 ji34, .int .i64 (wrap64 ((rd l0 x70_3) + (rd l1 (ji35)))), .int .i64 ji44, .int .i64 (wrap64 ((wrap64 (x21_3 + (rd l0 x70_3))) + (rd l1 (ji45))))] 51 (0, 0)) (by (with_reducible repeat (first | refine blk_drewN ?_ _ | refine blk_drew ?_ | refine blk_alloc ?_ _)); refine blk_put (cs := #[.int .i64 ji34, .int .i64 (wrap64 ((rd l0 x70_3) + (rd l1 (ji35)))), .int .i64 ji44, .int .i64 0]) ?_ 3 _ rfl; (with_reducible repeat (first | refine blk_drewN ?_ _ | refine blk_drew ?_ | refine blk_alloc ?_ _)); refine blk_put (cs := #[.int .i64 ji34, .int .i64 (wrap64 ((rd l0 x70_3) + (rd l1 (ji35)))), .int .i64 1, .int .i64 0]) ?_ 2 _ rfl; (with_reducible repeat (first | refine blk_drewN ?_ _ | refine blk_drew ?_ | refine blk_alloc ?_ _)); exact BK858.out) hg (Kd.R_away HO_19.out (fun _ hk => hk.2))); have n4_ := a_ (hb); have n5_ := a_ (ho); clear HO_1; clear HO_20; clear HO_68; clear BK858; clear HB; clear HO_19; have HO_1 := n0_; have HO_20 := n1_; have HO_68 := n2_; have BK858 := n3_; have HB := n4_; have HO864 := n5_; clear n0_ n1_ n2_ n3_ n4_ n5_; clear ho hb hg hat) | ((with_reducible refine gate_builtin (b := .append) (xs := #[.tmp 124, .tmp 126]) rfl ?_); (try (refine gate_guard (by rfl) ?_; dsimp only)); at_builtin; refine Kd.R_append (Kd.int .i64) (w0 := w) w.heap.size rfl (.tmp 124) (.tmp 126) 26 3 (.int .i64 0) 8 rfl Tryd.underlying26 info3 rfl (by decide) (by omega) u20 x20_3 (wrap64 (x21_3 + (rd l0 x70_3))) [.int .i64 (wrap64 (x21_3 + (rd l0 x70_3)))] (fun k_ => (w.heap.size ≤ k_)) (fun _ => False) rfl rfl ?aP (fun _ hk => hk.elim) ?aF ?aO ?aB ?aS ?aL ?_; (case aP => exact rfl); (case aB => exact bl_); (case aF => exact (fun k_ hk => (Nat.le_trans (below_size bl_) hk))); (case aO => exact (rl_ HO_20.out)); (case aS => exact (below_size bl_)); (case aL => have := LMc49.out; omega); intro v866 w62 ho hb hg hat; rw [← Ny865.out] at ho; have n0_ := a_ (Kd.V_afterv (ok := (fun k_ => ((P0_ k_ ∨ P1_ k_) ∨ w.heap.size ≤ k_) ∧ some k_ ≠ (v863 : Value).ownBlock ∧ k_ ≠ gb858)) ((by (with_reducible repeat (first | apply Kd.V_alloc | apply Kd.V_drewN | apply Kd.V_drew)); exact Kd.V_mono HO_1.out (fun _ hk => ⟨⟨hk.1.1, ⟨hk.2, hk.1.2.2⟩⟩, hk.1.2.1⟩))) hg hat); have n1_ := a_ (Kd.V_afterv (ok := (fun k_ => ((P0_ k_ ∨ P1_ k_) ∨ w.heap.size ≤ k_) ∧ some k_ ≠ (v863 : Value).ownBlock ∧ k_ ≠ gb858)) ((by (with_reducible repeat (first | apply Kd.V_alloc | apply Kd.V_drewN | apply Kd.V_drew)); exact Kd.V_mono HO_68.out (fun _ hk => ⟨⟨hk.1.1, ⟨hk.2, hk.1.2.2⟩⟩, hk.1.2.1⟩))) hg hat); have n2_ := a_ (blk_grown (g := gb858) (o := .cells #[.int .i64 ji34, .int .i64 (wrap64 ((rd l0 x70_3) + (rd l1 (ji35)))), .int .i64 ji44, .int .i64 (wrap64 ((wrap64 (x21_3 + (rd l0 x70_3))) + (rd l1 (ji45))))] 51 (0, 0)) (by (with_reducible repeat (first | refine blk_drewN ?_ _ | refine blk_drew ?_ | refine blk_alloc ?_ _)); exact BK858.out) hg (Kd.R_ne HO_20.out BK858.out (by decide))); have n3_ := a_ (Kd.R_over' (rl_ HO864.out) (Kd.R_typed (rl_ HO_20.out)) (by decide) hg); have n4_ := a_ (hb); have n5_ := a_ (ho); clear HO_1; clear HO_68; clear BK858; clear HO864; clear HB; clear HO_20; have HO_1 := n0_; have HO_68 := n1_; have BK858 := n2_; have HO864 := n3_; have HB := n4_; have HO867 := n5_; clear n0_ n1_ n2_ n3_ n4_ n5_; clear ho hb hg hat))
                         go_roundg k3
                         case measure => have := HJ10.out; have := HK2.out; have := HK3.out; omega
                         case rel => exact ⟨(y862), (y865), (wrap64 (x21_3 + (rd l0 x70_3))), (wrap64 (x70_3 + 1)), (by first | rfl | (simp; done) | (simp [*]; done)), (by first | rfl | (simp; done) | (simp [*]; done)), H', ⟨by have := HJ10.out; have := HK2.out; have := HK3.out; omega⟩, ⟨by (with_reducible repeat (first | apply Kd.V_alloc | apply Kd.V_drewN | apply Kd.V_drew)); exact Kd.V_mono HO_1.out (fun _ hk => ⟨hk.1.1, ⟨hk.1.2.1, hk.2⟩⟩)⟩, ⟨rl_ (Kd.R_mono HO864.out (fun _ hk => hk.1))⟩, ⟨rl_ HO867.out⟩, ⟨by (with_reducible repeat (first | apply Kd.V_alloc | apply Kd.V_drewN | apply Kd.V_drew)); exact Kd.V_mono HO_68.out (fun _ hk => ⟨hk.1.1, ⟨hk.1.2.1, hk.2⟩⟩)⟩, ⟨bl_⟩⟩
                        ·rw [if_neg c49] at H
                         exact absurd H (by simp)
                       ·rw [if_neg c48] at H
                        exact absurd H (by simp)
                      ·rw [if_neg c47] at H
                       exact absurd H (by simp)
                     ·rw [if_neg c46] at H
                      exact absurd H (by simp)
                    ·rw [if_neg c43] at H
                     exact absurd H (by simp)
                   ·rw [if_neg c42] at H
                    exact absurd H (by simp)
                  ·replace c40 := Bool.eq_false_iff.mpr c40
                   subst c40
                   have H1 : (if x19_3.length < 4398046511104 then (if x20_3.length < 17592186044416 then (waterhourlaw04_RefillTruth.l1 k3 l1 l2 a3 a4 a5 a6 a7 (x19_3 ++ [(⟨(⟨ji34, wrap64 ((rd l0 x70_3) + (rd l1 (ji35)))⟩ : S49), (⟨1, 0⟩ : S49)⟩ : S51)]) (x20_3 ++ [wrap64 (x21_3 + (rd l0 x70_3))]) (wrap64 (x21_3 + (rd l0 x70_3))) l0 (l0.length : Int) (wrap64 (x70_3 + 1))) else (none)) else (none)) = some r := by rw [if_neg (show ¬ (false = true) by decide)] at H; exact H
                   clear H
                   have H := H1
                   clear H1
                   by_cases c63 : x19_3.length < 4398046511104
                   ·rw [if_pos c63] at H
                    have LMc63 := a_ c63
                    clear c63
                    obtain ⟨y868, hy868⟩ : ∃ y_ : List (S51), y_ = (x19_3 ++ [(⟨(⟨ji34, wrap64 ((rd l0 x70_3) + (rd l1 (ji35)))⟩ : S49), (⟨1, 0⟩ : S49)⟩ : S51)]) := ⟨_, rfl⟩
                    replace H : (if x20_3.length < 17592186044416 then (waterhourlaw04_RefillTruth.l1 k3 l1 l2 a3 a4 a5 a6 a7 y868 (x20_3 ++ [wrap64 (x21_3 + (rd l0 x70_3))]) (wrap64 (x21_3 + (rd l0 x70_3))) l0 (l0.length : Int) (wrap64 (x70_3 + 1))) else (none)) = some r := by first | (rw [hy868]; with_reducible exact H) | (have H2_ := (Option.bind_some _ _).symm.trans H; rw [hy868]; with_reducible exact H2_) | (have H2_ := (Option.bind_some _ _).symm.trans H; with_reducible exact H2_) | with_reducible exact H | (rw [hy868]; exact H) | exact H
                    have Ny868 := a_ hy868
                    clear hy868
                    by_cases c64 : x20_3.length < 17592186044416
                    ·rw [if_pos c64] at H
                     have LMc64 := a_ c64
                     clear c64
                     obtain ⟨y871, hy871⟩ : ∃ y_ : List Int, y_ = (x20_3 ++ [wrap64 (x21_3 + (rd l0 x70_3))]) := ⟨_, rfl⟩
                     replace H : (waterhourlaw04_RefillTruth.l1 k3 l1 l2 a3 a4 a5 a6 a7 y868 y871 (wrap64 (x21_3 + (rd l0 x70_3))) l0 (l0.length : Int) (wrap64 (x70_3 + 1))) = some r := by first | (rw [hy871]; with_reducible exact H) | (have H2_ := (Option.bind_some _ _).symm.trans H; rw [hy871]; with_reducible exact H2_) | (have H2_ := (Option.bind_some _ _).symm.trans H; with_reducible exact H2_) | with_reducible exact H | (rw [hy871]; exact H) | exact H
                     have Ny871 := a_ hy871
                     clear hy871
                     have H' := a_ H
                     clear H
                     have p855 : 0 ≤ (x70_3 : Int) := of_decide_eq_true (by first | (with_reducible assumption) | assumption)
                     have q855 : x70_3 < (l0.length : Int) := of_decide_eq_true (by first | (with_reducible assumption) | assumption)
                     obtain ⟨ad855, e855, hx855_0⟩ := Kd.at_int (Kd.V_reads' HO_68.out).2.2 x70_3 p855 q855
                     cases e855
                     replace p855 := eq_true p855
                     replace q855 := eq_true q855
                     try go_wp2
                     have n0_ := a_ (Kd.V_drew HO_1.out)
                     have n1_ := a_ (Kd.R_drew HO_19.out)
                     have n2_ := a_ (Kd.R_drew HO_20.out)
                     have n3_ := a_ (Kd.V_drew HO_68.out)
                     have n4_ := a_ (below_drew1 HB.out)
                     clear HO_1
                     clear HO_19
                     clear HO_20
                     clear HO_68
                     clear HB
                     have HO_1 := n0_
                     have HO_19 := n1_
                     have HO_20 := n2_
                     have HO_68 := n3_
                     have HB := n4_
                     clear n0_ n1_ n2_ n3_ n4_
                     have p856 : 0 ≤ ((ji31) : Int) := of_decide_eq_true (by first | (with_reducible assumption) | assumption)
                     have q856 : (ji31) < (l1.length : Int) := of_decide_eq_true (by first | (with_reducible assumption) | assumption)
                     obtain ⟨ad856, e856, hx856_0⟩ := Kd.at_int (Kd.V_reads' HO_1.out).2.2 (ji31) p856 q856
                     cases e856
                     replace p856 := eq_true p856
                     replace q856 := eq_true q856
                     have p857 : 0 ≤ ((ji35) : Int) := of_decide_eq_true (by first | (with_reducible assumption) | assumption)
                     have q857 : (ji35) < (l1.length : Int) := of_decide_eq_true (by first | (with_reducible assumption) | assumption)
                     obtain ⟨ad857, e857, hx857_0⟩ := Kd.at_int (Kd.V_reads' HO_1.out).2.2 (ji35) p857 q857
                     obtain rfl : ad856 = ad857 := (by injection e857)
                     replace p857 := eq_true p857
                     replace q857 := eq_true q857
                     refine start_ (n := 21) (S := fun w' => w'.cell? (ad856.add ((ji31)).toNat) = some (.int .i64 (rd l1 (ji31))) ∧ w'.cell? (ad856.add ((ji35)).toNat) = some (.int .i64 (rd l1 (ji35)))) (ds := []) #[false, false, false, false, false, false, false, false, false, false, false, false, false, false, false, false, false, false, false, false, false] (by kernel_rfl) rfl rfl ⟨hx856_0, hx857_0⟩ (fun hHeld => ?_); refine with_tabW waterhourlaw04_RefillTruth.tab18 waterhourlaw04_RefillTruth.bits18 (fun HT_ HW_ => ?_)
                     generalize wr.drew = w65 at HO_1 HO_19 HO_20 HO_68 HB hx856_0 hx857_0 hHeld ⊢
                     refine pz_ 0 78 HT_ ?_
                     refine pz_ 1 79 HT_ ?_
                     refine pz_ 2 80 HT_ ?_
                     refine pz_ 3 81 HT_ ?_
                     refine pz_ 4 82 HT_ ?_
                     refine pz_ 8 86 HT_ ?_
                     refine pz_ 9 87 HT_ ?_
                     refine pz_ 10 88 HT_ ?_
                     refine pz_ 11 89 HT_ ?_
                     refine pz_ 12 90 HT_ ?_
                     refine pz_ 13 91 HT_ ?_
                     refine pz_ 17 95 HT_ ?_
                     refine take_ (i := 5) (N := some 83) (v := ?_) (a' := ?_) #[true, true, true, true, true, true, false, false, true, true, true, true, true, true, false, false, false, true, false, false, false] rfl rfl (take_ofW HT_.out HW_.out (by kernel_rfl)) (fun _ _ _ h => h) (Or.inl ⟨by rfl, ?_⟩) hHeld ?_ ?_
                     rotate_left
                     ·rintro w' ⟨s0, s1⟩
                      go_simp
                      with_reducible rfl
                     rotate_left
                     ·simp only [Act.put, List.setIfInBounds_toArray, List.set_cons_zero, List.set_cons_succ, i64_w, i32_w]
                      rfl
                     refine pz_ 6 84 HT_ ?_
                     refine pz_ 7 85 HT_ ?_
                     refine take_ (i := 14) (N := some 92) (v := ?_) (a' := ?_) #[true, true, true, true, true, true, true, true, true, true, true, true, true, true, true, false, false, true, false, false, false] rfl rfl (take_ofW HT_.out HW_.out (by kernel_rfl)) (fun _ _ _ h => h) (Or.inl ⟨by rfl, ?_⟩) hHeld ?_ ?_
                     rotate_left
                     ·rintro w' ⟨s0, s1⟩
                      go_simp
                      with_reducible rfl
                     rotate_left
                     ·simp only [Act.put, List.setIfInBounds_toArray, List.set_cons_zero, List.set_cons_succ, i64_w, i32_w]
                      rfl
                     refine pz_ 15 93 HT_ ?_
                     refine pz_ 16 94 HT_ ?_
                     refine pz_ 18 96 HT_ ?_
                     refine one_ (i := 19) (N := some 24) #[true, true, true, true, true, true, true, true, true, true, true, true, true, true, true, true, true, true, true, true, false] rfl rfl (one_of HT_.out (by kernel_rfl)) (by decide) (fun K hK => ?_)
                     refine box_step ?hg (N := 24) ?hd (cs := #[.int .i64 0, .int .i64 0, .int .i64 0, .int .i64 0]) (t := 51) ?hr ?_; (case hd => rfl); (case hg => rfl); (case hr => first | (go_simp; done) | (go_simp; rfl))
                     intro gb858 hg w66 hbox hb
                     have HS0_ := (hb.cell (World.block_lt_of_cell? _ _ (hHeld.1))).trans (hHeld.1)
                     have HS1_ := (hb.cell (World.block_lt_of_cell? _ _ (hHeld.2))).trans (hHeld.2)
                     have n0_ := a_ (Kd.V_below (Kd.V_elderB (vl_ HO_1.out) gb858 (Nat.le_of_eq hg.symm)) hb)
                     have n1_ := a_ (Kd.R_below (Kd.R_elderB (rl_ HO_19.out) gb858 (Nat.le_of_eq hg.symm)) hb)
                     have n2_ := a_ (Kd.R_below (rl_ HO_20.out) hb)
                     have n3_ := a_ (Kd.V_below (Kd.V_elderB (vl_ HO_68.out) gb858 (Nat.le_of_eq hg.symm)) hb)
                     have n4_ := a_ (below_step bl_ hb)
                     have n5_ := a_ (hbox)
                     have n6_ := a_ ((bz_ (w := w) hg))
                     have n7_ := a_ ((bz_ (w := w) hg))
                     clear HO_1
                     clear HO_19
                     clear HO_20
                     clear HO_68
                     clear HB
                     have HO_1 := n0_
                     have HO_19 := n1_
                     have HO_20 := n2_
                     have HO_68 := n3_
                     have HB := n4_
                     have BK858 := n5_
                     have GW858 := n6_
                     have GE858 := n7_
                     clear n0_ n1_ n2_ n3_ n4_ n5_ n6_ n7_
                     clear hb hbox hg
                     refine hK.out _ _ ⟨HS0_, HS1_⟩ (fun hHeld => ?_)
                     clear hK K
                     refine norm_ (a' := ?_) ?_ ?_
                     rotate_left
                     ·show Act.put _ (some 24) _ = _
                      simp only [Act.put, List.setIfInBounds_toArray, List.set_cons_zero, List.set_cons_succ, i64_w, i32_w]
                      rfl
                     refine one_ (i := 20) (N := none) #[true, true, true, true, true, true, true, true, true, true, true, true, true, true, true, true, true, true, true, true, true] rfl rfl (one_of HT_.out (by kernel_rfl)) (by decide) (fun K hK => ?_)
                     have hs67 : w66.cell? ⟨gb858, 0, none⟩ = some (.int .i64 0) := (blk_cell BK858.out 0).trans rfl
                     have hfs67 := blk_frozen BK858.out 0
                     have hs68 : w66.cell? ⟨gb858, 1, none⟩ = some (.int .i64 0) := (blk_cell BK858.out 1).trans rfl
                     have hfs68 := blk_frozen BK858.out 1
                     have hs69 : w66.cell? ⟨gb858, 2, none⟩ = some (.int .i64 0) := (blk_cell BK858.out 2).trans rfl
                     have hfs69 := blk_frozen BK858.out 2
                     have hs70 : w66.cell? ⟨gb858, 3, none⟩ = some (.int .i64 0) := (blk_cell BK858.out 3).trans rfl
                     have hfs70 := blk_frozen BK858.out 3
                     refine skip_ (w1 := ?_) (by rfl) rfl ?_ ?_
                     rotate_left
                     ·go_simp
                      rfl
                     refine hK.out _ _ ⟨vcell_int (Kd.V_far (Kd.V_far (Kd.V_far (Kd.V_far HO_1.out (fun _ hk => hk.2) _) (fun _ hk => hk.2) _) (fun _ hk => hk.2) _) (fun _ hk => hk.2) _) p856 q856, vcell_int (Kd.V_far (Kd.V_far (Kd.V_far (Kd.V_far HO_1.out (fun _ hk => hk.2) _) (fun _ hk => hk.2) _) (fun _ hk => hk.2) _) (fun _ hk => hk.2) _) p857 q857⟩ (fun hHeld => ?_)
                     clear hK K
                     refine done_ (done_of HT_.out (by kernel_rfl)) ?_
                     have p859 : 0 ≤ (x70_3 : Int) := of_decide_eq_true (by first | (with_reducible assumption) | assumption)
                     have q859 : x70_3 < (l2.length : Int) := of_decide_eq_true (by first | (with_reducible assumption) | assumption)
                     obtain ⟨ad859, e859, hx859_0⟩ := Kd.at_bool HR2.out x70_3 p859 q859
                     (try rw [← Nbq39.out] at hx859_0)
                     cases e859
                     have hn859_0 : ad859.block ≠ gb858 := Nat.ne_of_lt (Nat.lt_of_lt_of_le (by have := World.block_lt_of_cell? _ _ hx859_0; first | rwa [add_block] at this | exact this) GW858.out)
                     have hn859_1 : ad859.block ≠ gb858 := Nat.ne_of_lt (Nat.lt_of_lt_of_le (by have := World.block_lt_of_cell? _ _ hx859_0; first | rwa [add_block] at this | exact this) GW858.out)
                     have hn859_2 : ad859.block ≠ gb858 := Nat.ne_of_lt (Nat.lt_of_lt_of_le (by have := World.block_lt_of_cell? _ _ hx859_0; first | rwa [add_block] at this | exact this) GW858.out)
                     have hn859_3 : ad859.block ≠ gb858 := Nat.ne_of_lt (Nat.lt_of_lt_of_le (by have := World.block_lt_of_cell? _ _ hx859_0; first | rwa [add_block] at this | exact this) GW858.out)
                     replace hx859_0 := (HB.out.cell (World.block_lt_of_cell? w _ hx859_0)).trans hx859_0
                     replace hx859_0 := (cell_far (p := ⟨gb858, 0, none⟩) (by first | (rw [add_block]; exact hn859_0) | (show (Addr.add _ _).block ≠ _; rw [add_block]; exact hn859_0) | exact hn859_0) (.int .i64 ji34)).trans hx859_0
                     replace hx859_0 := (cell_far (p := ⟨gb858, 1, none⟩) (by first | (rw [add_block]; exact hn859_1) | (show (Addr.add _ _).block ≠ _; rw [add_block]; exact hn859_1) | exact hn859_1) (.int .i64 (wrap64 ((rd l0 x70_3) + (rd l1 (ji35)))))).trans hx859_0
                     replace hx859_0 := (cell_far (p := ⟨gb858, 2, none⟩) (by first | (rw [add_block]; exact hn859_2) | (show (Addr.add _ _).block ≠ _; rw [add_block]; exact hn859_2) | exact hn859_2) (.int .i64 1)).trans hx859_0
                     replace hx859_0 := (cell_far (p := ⟨gb858, 3, none⟩) (by first | (rw [add_block]; exact hn859_3) | (show (Addr.add _ _).block ≠ _; rw [add_block]; exact hn859_3) | exact hn859_3) (.int .i64 0)).trans hx859_0
                     clear hn859_0
                     clear hn859_1
                     clear hn859_2
                     clear hn859_3
                     replace p859 := eq_true p859
                     replace q859 := eq_true q859
                     have hcz71_0 : w66.cell? ⟨gb858, 0, none⟩ = some (.int .i64 0) := (blk_cell BK858.out 0).trans rfl
                     have hcz71_1 : w66.cell? ⟨gb858, 1, none⟩ = some (.int .i64 0) := (blk_cell BK858.out 1).trans rfl
                     have hcz71_2 : w66.cell? ⟨gb858, 2, none⟩ = some (.int .i64 0) := (blk_cell BK858.out 2).trans rfl
                     have hcz71_3 : w66.cell? ⟨gb858, 3, none⟩ = some (.int .i64 0) := (blk_cell BK858.out 3).trans rfl
                     have hfz71_0 := blk_frozen BK858.out 0
                     have hfz71_1 := blk_frozen BK858.out 1
                     have hfz71_2 := blk_frozen BK858.out 2
                     have hfz71_3 := blk_frozen BK858.out 3
                     try go_wp2_with (first | ((with_reducible refine gate_builtin (b := .append) (xs := #[.tmp 120, .tmp 122]) rfl ?_); (try (refine gate_guard (by rfl) ?_; dsimp only)); at_builtin; refine Kd.R_append k51 (w0 := w) w.heap.size rfl (.tmp 120) (.tmp 122) 23 51 (.agg #[(.int .i64 0), (.int .i64 0), (.int .i64 0), (.int .i64 0)]) 32 rfl Tryd.underlying23 info51 rfl (by decide) (by omega) u19 x19_3 (⟨(⟨ji34, wrap64 ((rd l0 x70_3) + (rd l1 (ji35)))⟩ : S49), (⟨1, 0⟩ : S49)⟩ : S51) [.int .i64 ji34, .int .i64 (wrap64 ((rd l0 x70_3) + (rd l1 (ji35)))), .int .i64 1, .int .i64 0] (fun k_ => (w.heap.size ≤ k_) ∧ k_ ≠ gb858) (fun _ => False) rfl (by first | (go_simp; done) | (go_simp; rfl)) ?aP (fun _ hk => hk.elim) ?aF ?aO ?aB ?aS ?aL ?_; (case aP => exact k51_mkM _ _ _ (⟨(⟨ji34, wrap64 ((rd l0 x70_3) + (rd l1 (ji35)))⟩ : S49), (⟨1, 0⟩ : S49)⟩ : S51)); (case aB => exact bl_); (case aF => exact (fun k_ hk => ⟨(Nat.le_trans (below_size bl_) hk), Kd.freshB (g := gb858) (o := .cells #[.int .i64 ji34, .int .i64 (wrap64 ((rd l0 x70_3) + (rd l1 (ji35)))), .int .i64 1, .int .i64 0] 51 (0, 0)) (by (with_reducible repeat (first | refine blk_drewN ?_ _ | refine blk_drew ?_ | refine blk_alloc ?_ _)); refine blk_put (cs := #[.int .i64 ji34, .int .i64 (wrap64 ((rd l0 x70_3) + (rd l1 (ji35)))), .int .i64 1, .int .i64 0]) ?_ 3 _ rfl; (with_reducible repeat (first | refine blk_drewN ?_ _ | refine blk_drew ?_ | refine blk_alloc ?_ _)); refine blk_put (cs := #[.int .i64 ji34, .int .i64 (wrap64 ((rd l0 x70_3) + (rd l1 (ji35)))), .int .i64 0, .int .i64 0]) ?_ 2 _ rfl; (with_reducible repeat (first | refine blk_drewN ?_ _ | refine blk_drew ?_ | refine blk_alloc ?_ _)); refine blk_put (cs := #[.int .i64 ji34, .int .i64 0, .int .i64 0, .int .i64 0]) ?_ 1 _ rfl; (with_reducible repeat (first | refine blk_drewN ?_ _ | refine blk_drew ?_ | refine blk_alloc ?_ _)); refine blk_put (cs := #[.int .i64 0, .int .i64 0, .int .i64 0, .int .i64 0]) ?_ 0 _ rfl; (with_reducible repeat (first | refine blk_drewN ?_ _ | refine blk_drew ?_ | refine blk_alloc ?_ _)); exact BK858.out) k_ hk⟩)); (case aO => exact (by (with_reducible repeat (first | apply Kd.R_alloc | apply Kd.R_drewN | apply Kd.R_drew)); exact Kd.R_mono (Kd.R_far (p := ⟨gb858, 3, none⟩) (Kd.R_far (p := ⟨gb858, 2, none⟩) (Kd.R_far (p := ⟨gb858, 1, none⟩) (Kd.R_far (p := ⟨gb858, 0, none⟩) (Kd.R_mono HO_19.out (fun k_ hk => (⟨hk, hk.2⟩ : _ ∧ k_ ≠ gb858))) (fun _ hk => hk.2) (.int .i64 ji34)) (fun _ hk => hk.2) (.int .i64 (wrap64 ((rd l0 x70_3) + (rd l1 (ji35)))))) (fun _ hk => hk.2) (.int .i64 1)) (fun _ hk => hk.2) (.int .i64 0)) (fun _ hk => ⟨hk.1.1, hk.1.2⟩))); (case aS => exact (below_size bl_)); (case aL => have := LMc63.out; omega); intro v869 w72 ho hb hg hat; rw [← Ny868.out] at ho; have n0_ := a_ (Kd.V_afterv (ok := (fun k_ => ((P0_ k_ ∨ P1_ k_) ∨ w.heap.size ≤ k_) ∧ some k_ ≠ (u20 : Value).ownBlock ∧ k_ ≠ gb858)) (by (with_reducible repeat (first | apply Kd.V_alloc | apply Kd.V_drewN | apply Kd.V_drew)); exact Kd.V_mono (Kd.V_far (p := ⟨gb858, 3, none⟩) (Kd.V_far (p := ⟨gb858, 2, none⟩) (Kd.V_far (p := ⟨gb858, 1, none⟩) (Kd.V_far (p := ⟨gb858, 0, none⟩) (Kd.V_mono HO_1.out (fun k_ hk => (⟨hk, hk.2⟩ : _ ∧ k_ ≠ gb858))) (fun _ hk => hk.2) (.int .i64 ji34)) (fun _ hk => hk.2) (.int .i64 (wrap64 ((rd l0 x70_3) + (rd l1 (ji35)))))) (fun _ hk => hk.2) (.int .i64 1)) (fun _ hk => hk.2) (.int .i64 0)) (fun _ hk => ⟨⟨hk.1.1.1, ⟨hk.1.1.2.2, hk.1.2⟩⟩, hk.1.1.2.1⟩)) hg hat); have n1_ := a_ (Kd.R_over' ((by (with_reducible repeat (first | apply Kd.R_alloc | apply Kd.R_drewN | apply Kd.R_drew)); exact Kd.R_mono (Kd.R_far (p := ⟨gb858, 3, none⟩) (Kd.R_far (p := ⟨gb858, 2, none⟩) (Kd.R_far (p := ⟨gb858, 1, none⟩) (Kd.R_far (p := ⟨gb858, 0, none⟩) (Kd.R_types HO_20.out BK858.out (by decide)) (fun _ hk => hk.2) (.int .i64 ji34)) (fun _ hk => hk.2) (.int .i64 (wrap64 ((rd l0 x70_3) + (rd l1 (ji35)))))) (fun _ hk => hk.2) (.int .i64 1)) (fun _ hk => hk.2) (.int .i64 0)) (fun _ h_ => h_.1))) (Kd.R_typed (by (with_reducible repeat (first | apply Kd.R_alloc | apply Kd.R_drewN | apply Kd.R_drew)); exact (Kd.R_mono (Kd.R_far (p := ⟨gb858, 3, none⟩) (Kd.R_far (p := ⟨gb858, 2, none⟩) (Kd.R_far (p := ⟨gb858, 1, none⟩) (Kd.R_far (p := ⟨gb858, 0, none⟩) (Kd.R_mono HO_19.out (fun k_ hk => (⟨hk, hk.2⟩ : _ ∧ k_ ≠ gb858))) (fun _ hk => hk.2) (.int .i64 ji34)) (fun _ hk => hk.2) (.int .i64 (wrap64 ((rd l0 x70_3) + (rd l1 (ji35)))))) (fun _ hk => hk.2) (.int .i64 1)) (fun _ hk => hk.2) (.int .i64 0)) (fun _ h_ => h_.1)))) (by decide) hg); have n2_ := a_ (Kd.V_afterv (ok := (fun k_ => ((P0_ k_ ∨ P1_ k_) ∨ w.heap.size ≤ k_) ∧ some k_ ≠ (u20 : Value).ownBlock ∧ k_ ≠ gb858)) (by (with_reducible repeat (first | apply Kd.V_alloc | apply Kd.V_drewN | apply Kd.V_drew)); exact Kd.V_mono (Kd.V_far (p := ⟨gb858, 3, none⟩) (Kd.V_far (p := ⟨gb858, 2, none⟩) (Kd.V_far (p := ⟨gb858, 1, none⟩) (Kd.V_far (p := ⟨gb858, 0, none⟩) (Kd.V_mono HO_68.out (fun k_ hk => (⟨hk, hk.2⟩ : _ ∧ k_ ≠ gb858))) (fun _ hk => hk.2) (.int .i64 ji34)) (fun _ hk => hk.2) (.int .i64 (wrap64 ((rd l0 x70_3) + (rd l1 (ji35)))))) (fun _ hk => hk.2) (.int .i64 1)) (fun _ hk => hk.2) (.int .i64 0)) (fun _ hk => ⟨⟨hk.1.1.1, ⟨hk.1.1.2.2, hk.1.2⟩⟩, hk.1.1.2.1⟩)) hg hat); have n3_ := a_ (blk_grown (g := gb858) (o := .cells #[.int .i64 ji34, .int .i64 (wrap64 ((rd l0 x70_3) + (rd l1 (ji35)))), .int .i64 1, .int .i64 0] 51 (0, 0)) (by (with_reducible repeat (first | refine blk_drewN ?_ _ | refine blk_drew ?_ | refine blk_alloc ?_ _)); refine blk_put (cs := #[.int .i64 ji34, .int .i64 (wrap64 ((rd l0 x70_3) + (rd l1 (ji35)))), .int .i64 1, .int .i64 0]) ?_ 3 _ rfl; (with_reducible repeat (first | refine blk_drewN ?_ _ | refine blk_drew ?_ | refine blk_alloc ?_ _)); refine blk_put (cs := #[.int .i64 ji34, .int .i64 (wrap64 ((rd l0 x70_3) + (rd l1 (ji35)))), .int .i64 0, .int .i64 0]) ?_ 2 _ rfl; (with_reducible repeat (first | refine blk_drewN ?_ _ | refine blk_drew ?_ | refine blk_alloc ?_ _)); refine blk_put (cs := #[.int .i64 ji34, .int .i64 0, .int .i64 0, .int .i64 0]) ?_ 1 _ rfl; (with_reducible repeat (first | refine blk_drewN ?_ _ | refine blk_drew ?_ | refine blk_alloc ?_ _)); refine blk_put (cs := #[.int .i64 0, .int .i64 0, .int .i64 0, .int .i64 0]) ?_ 0 _ rfl; (with_reducible repeat (first | refine blk_drewN ?_ _ | refine blk_drew ?_ | refine blk_alloc ?_ _)); exact BK858.out) hg (Kd.R_away HO_19.out (fun _ hk => hk.2))); have n4_ := a_ (hb); have n5_ := a_ (ho); clear HO_1; clear HO_20; clear HO_68; clear BK858; clear HB; clear HO_19; have HO_1 := n0_; have HO_20 := n1_; have HO_68 := n2_; have BK858 := n3_; have HB := n4_; have HO870 := n5_; clear n0_ n1_ n2_ n3_ n4_ n5_; clear ho hb hg hat) | ((with_reducible refine gate_builtin (b := .append) (xs := #[.tmp 124, .tmp 126]) rfl ?_); (try (refine gate_guard (by rfl) ?_; dsimp only)); at_builtin; refine Kd.R_append (Kd.int .i64) (w0 := w) w.heap.size rfl (.tmp 124) (.tmp 126) 26 3 (.int .i64 0) 8 rfl Tryd.underlying26 info3 rfl (by decide) (by omega) u20 x20_3 (wrap64 (x21_3 + (rd l0 x70_3))) [.int .i64 (wrap64 (x21_3 + (rd l0 x70_3)))] (fun k_ => (w.heap.size ≤ k_)) (fun _ => False) rfl rfl ?aP (fun _ hk => hk.elim) ?aF ?aO ?aB ?aS ?aL ?_; (case aP => exact rfl); (case aB => exact bl_); (case aF => exact (fun k_ hk => (Nat.le_trans (below_size bl_) hk))); (case aO => exact (rl_ HO_20.out)); (case aS => exact (below_size bl_)); (case aL => have := LMc64.out; omega); intro v872 w73 ho hb hg hat; rw [← Ny871.out] at ho; have n0_ := a_ (Kd.V_afterv (ok := (fun k_ => ((P0_ k_ ∨ P1_ k_) ∨ w.heap.size ≤ k_) ∧ some k_ ≠ (v869 : Value).ownBlock ∧ k_ ≠ gb858)) ((by (with_reducible repeat (first | apply Kd.V_alloc | apply Kd.V_drewN | apply Kd.V_drew)); exact Kd.V_mono HO_1.out (fun _ hk => ⟨⟨hk.1.1, ⟨hk.2, hk.1.2.2⟩⟩, hk.1.2.1⟩))) hg hat); have n1_ := a_ (Kd.V_afterv (ok := (fun k_ => ((P0_ k_ ∨ P1_ k_) ∨ w.heap.size ≤ k_) ∧ some k_ ≠ (v869 : Value).ownBlock ∧ k_ ≠ gb858)) ((by (with_reducible repeat (first | apply Kd.V_alloc | apply Kd.V_drewN | apply Kd.V_drew)); exact Kd.V_mono HO_68.out (fun _ hk => ⟨⟨hk.1.1, ⟨hk.2, hk.1.2.2⟩⟩, hk.1.2.1⟩))) hg hat); have n2_ := a_ (blk_grown (g := gb858) (o := .cells #[.int .i64 ji34, .int .i64 (wrap64 ((rd l0 x70_3) + (rd l1 (ji35)))), .int .i64 1, .int .i64 0] 51 (0, 0)) (by (with_reducible repeat (first | refine blk_drewN ?_ _ | refine blk_drew ?_ | refine blk_alloc ?_ _)); exact BK858.out) hg (Kd.R_ne HO_20.out BK858.out (by decide))); have n3_ := a_ (Kd.R_over' (rl_ HO870.out) (Kd.R_typed (rl_ HO_20.out)) (by decide) hg); have n4_ := a_ (hb); have n5_ := a_ (ho); clear HO_1; clear HO_68; clear BK858; clear HO870; clear HB; clear HO_20; have HO_1 := n0_; have HO_68 := n1_; have BK858 := n2_; have HO870 := n3_; have HB := n4_; have HO873 := n5_; clear n0_ n1_ n2_ n3_ n4_ n5_; clear ho hb hg hat))
                     go_roundg k3
                     case measure => have := HJ10.out; have := HK2.out; have := HK3.out; omega
                     case rel => exact ⟨(y868), (y871), (wrap64 (x21_3 + (rd l0 x70_3))), (wrap64 (x70_3 + 1)), (by first | rfl | (simp; done) | (simp [*]; done)), (by first | rfl | (simp; done) | (simp [*]; done)), H', ⟨by have := HJ10.out; have := HK2.out; have := HK3.out; omega⟩, ⟨by (with_reducible repeat (first | apply Kd.V_alloc | apply Kd.V_drewN | apply Kd.V_drew)); exact Kd.V_mono HO_1.out (fun _ hk => ⟨hk.1.1, ⟨hk.1.2.1, hk.2⟩⟩)⟩, ⟨rl_ (Kd.R_mono HO870.out (fun _ hk => hk.1))⟩, ⟨rl_ HO873.out⟩, ⟨by (with_reducible repeat (first | apply Kd.V_alloc | apply Kd.V_drewN | apply Kd.V_drew)); exact Kd.V_mono HO_68.out (fun _ hk => ⟨hk.1.1, ⟨hk.1.2.1, hk.2⟩⟩)⟩, ⟨bl_⟩⟩
                    ·rw [if_neg c64] at H
                     exact absurd H (by simp)
                   ·rw [if_neg c63] at H
                    exact absurd H (by simp)
                 ·rw [if_neg c38] at H
                  exact absurd H (by simp)
                ·rw [if_neg c37] at H
                 exact absurd H (by simp)
               ·rw [if_neg c36] at H
                exact absurd H (by simp)
              ·rw [if_neg c33] at H
               exact absurd H (by simp)
             ·rw [if_neg c32] at H
              exact absurd H (by simp)
            ·rw [if_neg c30] at H
             exact absurd H (by simp)
           ·rw [if_neg c29] at H
            exact absurd H (by simp)
          ·rw [if_neg c28] at H
           have c28b0 : decide (x70_3 < (l0.length : Int)) = false := decide_eq_false c28
           clear c28
           have HC74 := a_ H
           clear H
           go_upto_region 23 with (fail)
           go_cut [139] (fun v139 wc => ∃ (kq : Nat) (x139_73 : Bool), v139 = .bool x139_73 ∧ Aside0 (waterhourlaw04_RefillTruth.j3 kq a3 a4 a5 x19_3 x20_3 x139_73 = some r) ∧ Aside0 (kq ≤ k3) ∧ Aside0 (Kd.R k51 51 wc w.heap.size (fun k_ => (w.heap.size ≤ k_)) u19 x19_3) ∧ Aside0 (Kd.R (Kd.int .i64) 3 wc w.heap.size (fun k_ => (w.heap.size ≤ k_)) u20 x20_3) ∧ Aside0 (Below w.heap.size w wc))
           case first => as_aux_lemma =>
            have H := HC74.out
            clear HC74
            replace H := Option.bind_eq_some_iff.mp H
            obtain ⟨t874, A750, H⟩ := H
            replace H : (if t874 = 0 then ((refill_CheckClash.f k3 x19_3 a6 a7).bind fun t875 => (waterhourlaw04_RefillTruth.j3 k3 a3 a4 a5 x19_3 x20_3 (t875 == 0))) else (waterhourlaw04_RefillTruth.j3 k3 a3 a4 a5 x19_3 x20_3 true)) = some r := H
            have A75 := a_ A750
            clear A750
            by_cases c76 : t874 = 0
            ·rw [if_pos c76] at H
             have c76b0 : (t874 == 0) = true := beq_iff_eq.mpr c76
             have c76b1 : (t874 != 0) = false := bne_eq_false_iff_eq.mpr c76
             clear c76
             (first | rw [c76b0] | (simp only [i64_w, i32_w]; rw [c76b0]) | skip)
             replace H := Option.bind_eq_some_iff.mp H
             obtain ⟨t875, A770, H⟩ := H
             replace H : (waterhourlaw04_RefillTruth.j3 k3 a3 a4 a5 x19_3 x20_3 (t875 == 0)) = some r := H
             have A77 := a_ A770
             clear A770
             have H' := a_ H
             clear H
             obtain ⟨Ao78, co78, eo78⟩ := Kd.R_slice HO_19.out
             subst eo78
             obtain ⟨Ao79, co79, eo79⟩ := Kd.R_slice HO_20.out
             subst eo79
             go_wp2_with (first | ((with_reducible refine gate_callee (f := 33) rfl ?_); refine goesL_ (some 131) rfl rfl Tryd.func33 (by kernel_rfl) rfl #[.slice Ao78 x19_3.length co78, .slice Ao79 x20_3.length co79] rfl tm_ ?_; (with_reducible refine (refill_CheckTimes.calls _ _ x19_3 _ _ x20_3 t874 _ ?side1 ?side2 ?side3 ?side4 A75.out).mono ?_); (case side1 => exact cl_ ((Kd.R_reads' HO_19.out).2.2)); (case side2 => exact (Kd.R_reads' HO_19.out).2.1); (case side3 => exact cl_ ((Kd.R_reads' HO_20.out).2.2)); (case side4 => exact (Kd.R_reads' HO_20.out).2.1); rintro e w80 ⟨rfl, hb⟩; refine ⟨_, rfl, ?_⟩; have n0_ := a_ (Kd.V_below (vl_ HO_1.out) hb); have n1_ := a_ (Kd.R_below (rl_ HO_19.out) hb); have n2_ := a_ (Kd.R_below (rl_ HO_20.out) hb); have n3_ := a_ (Kd.V_below (vl_ HO_68.out) hb); have n4_ := a_ (below_step bl_ hb); clear HO_1; clear HO_19; clear HO_20; clear HO_68; clear HB; have HO_1 := n0_; have HO_19 := n1_; have HO_20 := n2_; have HO_68 := n3_; have HB := n4_; clear n0_ n1_ n2_ n3_ n4_; (try clear hb); (try clear hb2); (try clear hk); (try clear hi)) | (go_at_call 25; (with_reducible refine (refill_CheckClash.calls k3 _ _ x19_3 a6 a7 t875 _ ?side1 ?side2 A77.out).mono ?_); (case side1 => exact cl_ ((Kd.R_reads' HO_19.out).2.2)); (case side2 => exact (Kd.R_reads' HO_19.out).2.1); rintro e w81 ⟨rfl, hb⟩; have n0_ := a_ (Kd.V_below (vl_ HO_1.out) hb); have n1_ := a_ (Kd.R_below (rl_ HO_19.out) hb); have n2_ := a_ (Kd.R_below (rl_ HO_20.out) hb); have n3_ := a_ (Kd.V_below (vl_ HO_68.out) hb); have n4_ := a_ (below_step bl_ hb); clear HO_1; clear HO_19; clear HO_20; clear HO_68; clear HB; have HO_1 := n0_; have HO_19 := n1_; have HO_20 := n2_; have HO_68 := n3_; have HB := n4_; clear n0_ n1_ n2_ n3_ n4_; (try clear hb); (try clear hb2); (try clear hk); (try clear hi)))
             go_meet
             case rel => exact ⟨_, ((t875 == 0)), (by first | rfl | (simp; done) | (simp [*]; done)), H', ⟨by have := HJ10.out; have := HK2.out; have := HK3.out; first | omega | exact Nat.le_refl _⟩, ⟨rl_ HO_19.out⟩, ⟨rl_ HO_20.out⟩, ⟨bl_⟩⟩
            ·rw [if_neg c76] at H
             have c76b0 : (t874 == 0) = false := beq_eq_false_iff_ne.mpr c76
             have c76b1 : (t874 != 0) = true := bne_iff_ne.mpr c76
             (first | rw [c76b0] | (simp only [i64_w, i32_w]; rw [c76b0]) | skip)
             have H' := a_ H
             clear H
             obtain ⟨Ao82, co82, eo82⟩ := Kd.R_slice HO_19.out
             subst eo82
             obtain ⟨Ao83, co83, eo83⟩ := Kd.R_slice HO_20.out
             subst eo83
             go_wp2_with (first | ((with_reducible refine gate_callee (f := 33) rfl ?_); refine goesL_ (some 131) rfl rfl Tryd.func33 (by kernel_rfl) rfl #[.slice Ao82 x19_3.length co82, .slice Ao83 x20_3.length co83] rfl tm_ ?_; (with_reducible refine (refill_CheckTimes.calls _ _ x19_3 _ _ x20_3 t874 _ ?side1 ?side2 ?side3 ?side4 A75.out).mono ?_); (case side1 => exact cl_ ((Kd.R_reads' HO_19.out).2.2)); (case side2 => exact (Kd.R_reads' HO_19.out).2.1); (case side3 => exact cl_ ((Kd.R_reads' HO_20.out).2.2)); (case side4 => exact (Kd.R_reads' HO_20.out).2.1); rintro e w84 ⟨rfl, hb⟩; refine ⟨_, rfl, ?_⟩; have n0_ := a_ (Kd.V_below (vl_ HO_1.out) hb); have n1_ := a_ (Kd.R_below (rl_ HO_19.out) hb); have n2_ := a_ (Kd.R_below (rl_ HO_20.out) hb); have n3_ := a_ (Kd.V_below (vl_ HO_68.out) hb); have n4_ := a_ (below_step bl_ hb); clear HO_1; clear HO_19; clear HO_20; clear HO_68; clear HB; have HO_1 := n0_; have HO_19 := n1_; have HO_20 := n2_; have HO_68 := n3_; have HB := n4_; clear n0_ n1_ n2_ n3_ n4_; (try clear hb); (try clear hb2); (try clear hk); (try clear hi)))
             go_meet
             case rel => exact ⟨_, (true), (by first | rfl | (simp; done) | (simp [*]; done)), H', ⟨by have := HJ10.out; have := HK2.out; have := HK3.out; first | omega | exact Nat.le_refl _⟩, ⟨rl_ HO_19.out⟩, ⟨rl_ HO_20.out⟩, ⟨bl_⟩⟩
           case rest =>
            clear HC74
            try clear c2
            try clear p2
            try clear c3
            try clear q3
            try clear c4
            try clear c6
            try clear p6
            try clear c7
            try clear p8
            try clear q8
            try clear hx8
            try clear c28
            try clear c28b0
            try clear c29
            try clear c30
            try clear c32
            try clear c33
            try clear c36
            try clear c37
            try clear c38
            try clear q39
            try clear c40
            try clear c42
            try clear c43
            try clear c46
            try clear c47
            try clear c48
            try clear c49
            try clear c63
            try clear c64
            try clear p64
            try clear c76
            try clear c76b0
            try clear c76b1
            try clear hcz60_0
            try clear hcz60_1
            try clear hcz60_2
            try clear hcz60_3
            try clear hcz71_0
            try clear hcz71_1
            try clear hcz71_2
            try clear hcz71_3
            try clear hfz60_0
            try clear hfz60_1
            try clear hfz60_2
            try clear hfz60_3
            try clear hfz71_0
            try clear hfz71_1
            try clear hfz71_2
            try clear hfz71_3
            try clear hx855_0
            try clear hx856_0
            try clear hx857_0
            try clear hx859_0
            try clear hx860_0
            try clear hx861_0
            try clear p855
            try clear p856
            try clear p857
            try clear p859
            try clear p860
            try clear p861
            try clear q855
            try clear q856
            try clear q857
            try clear q859
            try clear q860
            try clear q861
            obtain ⟨kq, x139_73, rfl, HA, HJ73, HO_19, HO_20, HB⟩ := hcut
            cases kq with
            | zero => exact absurd HA.out (by simp [waterhourlaw04_RefillTruth.j3])
            | succ kj73 =>
             have H := HA.out
             clear HA
             simp only [waterhourlaw04_RefillTruth.j3] at H
             by_cases c85 : x139_73 = true
             ·subst c85
              have H1 : (some false) = some r := by rw [if_pos rfl] at H; exact H
              clear H
              have H := H1
              clear H1
              exact absurd (H.trans (congrArg some hrt.out)) (by simp)
             ·replace c85 := Bool.eq_false_iff.mpr c85
              subst c85
              have H1 : (if a3 < 0 then (waterhourlaw04_RefillTruth.j4 kj73 a3 a4 a5 x19_3 x20_3 true) else (waterhourlaw04_RefillTruth.j4 kj73 a3 a4 a5 x19_3 x20_3 (decide (a3 ≥ (x20_3.length : Int))))) = some r := by rw [if_neg (show ¬ (false = true) by decide)] at H; exact H
              clear H
              have H := H1
              clear H1
              have HC86 := a_ H
              clear H
              go_upto_region 25 with (fail)
              go_cut [147] (fun v147 wc => ∃ (kq : Nat) (x147_85 : Bool), v147 = .bool x147_85 ∧ Aside0 (waterhourlaw04_RefillTruth.j4 kq a3 a4 a5 x19_3 x20_3 x147_85 = some r) ∧ Aside0 (kq ≤ kj73) ∧ Aside0 (Kd.R k51 51 wc w.heap.size (fun k_ => (w.heap.size ≤ k_)) u19 x19_3) ∧ Aside0 (Kd.R (Kd.int .i64) 3 wc w.heap.size (fun k_ => (w.heap.size ≤ k_)) u20 x20_3) ∧ Aside0 (Below w.heap.size w wc))
              case first => as_aux_lemma =>
               have H := HC86.out
               clear HC86
               by_cases c87 : a3 < 0
               ·rw [if_pos c87] at H
                have c87b0 : decide (a3 < 0) = true := decide_eq_true c87
                clear c87
                (first | rw [c87b0] | (simp only [i64_w, i32_w]; rw [c87b0]) | skip)
                have H' := a_ H
                clear H
                go_wp2
                go_meet
                case rel => exact ⟨_, (true), (by first | rfl | (simp; done) | (simp [*]; done)), H', ⟨by have := HJ10.out; have := HK2.out; have := HK3.out; have := HJ73.out; first | omega | exact Nat.le_refl _⟩, ⟨rl_ HO_19.out⟩, ⟨rl_ HO_20.out⟩, ⟨bl_⟩⟩
               ·rw [if_neg c87] at H
                have c87b0 : decide (a3 < 0) = false := decide_eq_false c87
                clear c87
                (first | rw [c87b0] | (simp only [i64_w, i32_w]; rw [c87b0]) | skip)
                have H' := a_ H
                clear H
                obtain ⟨Ao88, co88, eo88⟩ := Kd.R_slice HO_20.out
                subst eo88
                go_wp2
                go_meet
                case rel => exact ⟨_, (decide (a3 ≥ (x20_3.length : Int))), (by first | rfl | (simp; done) | (simp [*]; done)), H', ⟨by have := HJ10.out; have := HK2.out; have := HK3.out; have := HJ73.out; first | omega | exact Nat.le_refl _⟩, ⟨rl_ HO_19.out⟩, ⟨rl_ HO_20.out⟩, ⟨bl_⟩⟩
              case rest =>
               clear HC86
               try clear c2
               try clear p2
               try clear c3
               try clear q3
               try clear c4
               try clear c6
               try clear p6
               try clear c7
               try clear c8
               try clear p8
               try clear q8
               try clear hx8
               try clear c28
               try clear c28b0
               try clear c29
               try clear c30
               try clear c32
               try clear c33
               try clear c36
               try clear c37
               try clear c38
               try clear q39
               try clear c40
               try clear c42
               try clear c43
               try clear c46
               try clear c47
               try clear c48
               try clear c49
               try clear c63
               try clear c64
               try clear p64
               try clear c76
               try clear c76b0
               try clear c76b1
               try clear c85
               try clear p85
               try clear q85
               try clear hx85
               try clear p86
               try clear q86
               try clear hx86
               try clear c87
               try clear c87b0
               try clear hcz60_0
               try clear hcz60_1
               try clear hcz60_2
               try clear hcz60_3
               try clear hcz71_0
               try clear hcz71_1
               try clear hcz71_2
               try clear hcz71_3
               try clear hfz60_0
               try clear hfz60_1
               try clear hfz60_2
               try clear hfz60_3
               try clear hfz71_0
               try clear hfz71_1
               try clear hfz71_2
               try clear hfz71_3
               try clear hx855_0
               try clear hx856_0
               try clear hx857_0
               try clear hx859_0
               try clear hx860_0
               try clear hx861_0
               try clear p2
               try clear p6
               try clear p64
               try clear p8
               try clear p855
               try clear p856
               try clear p857
               try clear p859
               try clear p860
               try clear p861
               try clear q3
               try clear q39
               try clear q8
               try clear q855
               try clear q856
               try clear q857
               try clear q859
               try clear q860
               try clear q861
               obtain ⟨kq, x147_85, rfl, HA, HJ85, HO_19, HO_20, HB⟩ := hcut
               cases kq with
               | zero => exact absurd HA.out (by simp [waterhourlaw04_RefillTruth.j4])
               | succ kj85 =>
                have H := HA.out
                clear HA
                simp only [waterhourlaw04_RefillTruth.j4] at H
                by_cases c89 : x147_85 = true
                ·subst c89
                 have H1 : (some true) = some r := by rw [if_pos rfl] at H; exact H
                 clear H
                 have H := H1
                 clear H1
                 obtain rfl := Option.some.inj H
                 go_wp2
                 go_ret
                 exact ⟨by first | rfl | (simp [errW_none, errW_some] <;> rfl) | (simp [*, errW_none, errW_some] <;> rfl), bl_⟩
                ·replace c89 := Bool.eq_false_iff.mpr c89
                 subst c89
                 have H1 : ((refill_Time.f kj85 x19_3 a3).bind fun bt876 => (if bt876.2.2 = 0 then (if 0 ≤ a3 then (if a3 < (x20_3.length : Int) then (if (rd x20_3 a3) < bt876.1 then (waterhourlaw04_RefillTruth.j5 kj85 a3 a4 a5 x19_3 x20_3 true) else (waterhourlaw04_RefillTruth.j5 kj85 a3 a4 a5 x19_3 x20_3 (decide ((rd x20_3 a3) > bt876.2.1)))) else (none)) else (none)) else (waterhourlaw04_RefillTruth.j5 kj85 a3 a4 a5 x19_3 x20_3 true))) = some r := by rw [if_neg (show ¬ (false = true) by decide)] at H; exact H
                 clear H
                 have H := H1
                 clear H1
                 replace H := Option.bind_eq_some_iff.mp H
                 obtain ⟨⟨t876, t877, t878⟩, A900, H⟩ := H
                 replace H : (if t878 = 0 then (if 0 ≤ a3 then (if a3 < (x20_3.length : Int) then (if (rd x20_3 a3) < t876 then (waterhourlaw04_RefillTruth.j5 kj85 a3 a4 a5 x19_3 x20_3 true) else (waterhourlaw04_RefillTruth.j5 kj85 a3 a4 a5 x19_3 x20_3 (decide ((rd x20_3 a3) > t877)))) else (none)) else (none)) else (waterhourlaw04_RefillTruth.j5 kj85 a3 a4 a5 x19_3 x20_3 true)) = some r := H
                 have A90 := a_ A900
                 clear A900
                 have HC91 := a_ H
                 clear H
                 obtain ⟨Ao92, co92, eo92⟩ := Kd.R_slice HO_19.out
                 subst eo92
                 go_upto_region 28 with (first | ((with_reducible refine gate_callee (f := 43) rfl ?_); refine goesL_ (some 151) rfl rfl Tryd.func43 (by kernel_rfl) rfl #[.slice Ao92 x19_3.length co92, .int .i64 a3] rfl tm_ ?_; (with_reducible refine (refill_Time.calls kj85 _ _ x19_3 a3 t876 t877 t878 _ ?side1 ?side2 A90.out).mono ?_); (case side1 => exact cl_ ((Kd.R_reads' HO_19.out).2.2)); (case side2 => exact (Kd.R_reads' HO_19.out).2.1); rintro e w93 ⟨rfl, hb⟩; refine ⟨_, rfl, ?_⟩; have n0_ := a_ (Kd.R_below (rl_ HO_19.out) hb); have n1_ := a_ (Kd.R_below (rl_ HO_20.out) hb); have n2_ := a_ (below_step bl_ hb); clear HO_19; clear HO_20; clear HB; have HO_19 := n0_; have HO_20 := n1_; have HB := n2_; clear n0_ n1_ n2_; (try clear hb); (try clear hb2); (try clear hk); (try clear hi)) | ((with_reducible refine gate_dst (N := 25) rfl ?_); (try (refine gate_guard (by rfl) ?_; dsimp only)); refine box_event ?hg (N := 25) ?hd (cs := #[.int .i64 0, .int .i64 0]) (t := 49) ?hr ?_; (case hd => rfl); (case hg => rfl); (case hr => first | (go_simp; done) | (go_simp; rfl)); intro gb879 hg w94 hbox hb; have n0_ := a_ (Kd.R_below (rl_ HO_19.out) hb); have n1_ := a_ (Kd.R_below (rl_ HO_20.out) hb); have n2_ := a_ (below_step bl_ hb); have n3_ := a_ (hbox); have n4_ := a_ ((bz_ (w := w) hg)); have n5_ := a_ ((bz_ (w := w) hg)); clear HO_19; clear HO_20; clear HB; have HO_19 := n0_; have HO_20 := n1_; have HB := n2_; have BK879 := n3_; have GW879 := n4_; have GE879 := n5_; clear n0_ n1_ n2_ n3_ n4_ n5_; clear hb hbox hg; have hcz95_0 : w94.cell? ⟨gb879, 0, none⟩ = some (.int .i64 0) := (blk_cell BK879.out 0).trans rfl; have hcz95_1 : w94.cell? ⟨gb879, 1, none⟩ = some (.int .i64 0) := (blk_cell BK879.out 1).trans rfl; have hfz95_0 := blk_frozen BK879.out 0; have hfz95_1 := blk_frozen BK879.out 1))
                 (try simp only [Act.put, List.setIfInBounds_toArray, List.set_cons_zero, List.set_cons_succ])
                 go_cut [173] (fun v173 wc => ∃ (kq : Nat) (x173_90 : Bool), v173 = .bool x173_90 ∧ Aside0 (waterhourlaw04_RefillTruth.j5 kq a3 a4 a5 x19_3 x20_3 x173_90 = some r) ∧ Aside0 (kq ≤ kj85) ∧ Aside0 (Kd.R k51 51 wc w.heap.size (fun k_ => (w.heap.size ≤ k_)) (.slice Ao92 x19_3.length co92) x19_3) ∧ Aside0 (Kd.R (Kd.int .i64) 3 wc w.heap.size (fun k_ => (w.heap.size ≤ k_)) u20 x20_3) ∧ Aside0 (wc.heap[gb879]? = some (.cells #[.int .i64 t876, .int .i64 t877] 49 (0, 0))) ∧ Aside0 (Below w.heap.size w wc))
                 case first => as_aux_lemma =>
                  have H := HC91.out
                  clear HC91
                  by_cases c96 : t878 = 0
                  ·rw [if_pos c96] at H
                   have c96b0 : (t878 == 0) = true := beq_iff_eq.mpr c96
                   have c96b1 : (t878 != 0) = false := bne_eq_false_iff_eq.mpr c96
                   clear c96
                   (first | rw [c96b0] | (simp only [i64_w, i32_w]; rw [c96b0]) | skip)
                   by_cases c97 : 0 ≤ a3
                   ·rw [if_pos c97] at H
                    have c97b0 : decide (0 ≤ a3) = true := decide_eq_true c97
                    clear c97
                    by_cases c98 : a3 < (x20_3.length : Int)
                    ·rw [if_pos c98] at H
                     have c98b0 : decide (a3 < (x20_3.length : Int)) = true := decide_eq_true c98
                     clear c98
                     by_cases c99 : (rd x20_3 a3) < t876
                     ·rw [if_pos c99] at H
                      have c99b0 : decide ((rd x20_3 a3) < t876) = true := decide_eq_true c99
                      clear c99
                      have H' := a_ H
                      clear H
                      try go_wp2
                      have n0_ : Aside0 (Kd.R k51 51 ((w94.setCell ⟨gb879, 0, none⟩ (.int .i64 t876)).setCell ⟨gb879, 1, none⟩ (.int .i64 t877)) w.heap.size (fun k_ => (w.heap.size ≤ k_)) (.slice Ao92 x19_3.length co92) x19_3) := ⟨by (with_reducible repeat (first | apply Kd.R_alloc | apply Kd.R_drewN | apply Kd.R_drew)); exact Kd.R_mono (Kd.R_far (p := ⟨gb879, 1, none⟩) (Kd.R_far (p := ⟨gb879, 0, none⟩) (Kd.R_types HO_19.out BK879.out (by decide)) (fun _ hk => hk.2) (.int .i64 t876)) (fun _ hk => hk.2) (.int .i64 t877)) (fun _ hk => hk.1)⟩
                      have n1_ : Aside0 (Kd.R (Kd.int .i64) 3 ((w94.setCell ⟨gb879, 0, none⟩ (.int .i64 t876)).setCell ⟨gb879, 1, none⟩ (.int .i64 t877)) w.heap.size (fun k_ => (w.heap.size ≤ k_)) u20 x20_3) := ⟨by (with_reducible repeat (first | apply Kd.R_alloc | apply Kd.R_drewN | apply Kd.R_drew)); exact Kd.R_mono (Kd.R_far (p := ⟨gb879, 1, none⟩) (Kd.R_far (p := ⟨gb879, 0, none⟩) (Kd.R_types HO_20.out BK879.out (by decide)) (fun _ hk => hk.2) (.int .i64 t876)) (fun _ hk => hk.2) (.int .i64 t877)) (fun _ hk => hk.1)⟩
                      have n2_ : Aside0 (((w94.setCell ⟨gb879, 0, none⟩ (.int .i64 t876)).setCell ⟨gb879, 1, none⟩ (.int .i64 t877)).heap[gb879]? = some (.cells #[.int .i64 t876, .int .i64 t877] 49 (0, 0))) := ⟨by (with_reducible repeat (first | refine blk_drewN ?_ _ | refine blk_drew ?_ | refine blk_alloc ?_ _)); refine blk_put (cs := #[.int .i64 t876, .int .i64 0]) ?_ 1 _ rfl; (with_reducible repeat (first | refine blk_drewN ?_ _ | refine blk_drew ?_ | refine blk_alloc ?_ _)); refine blk_put (cs := #[.int .i64 0, .int .i64 0]) ?_ 0 _ rfl; (with_reducible repeat (first | refine blk_drewN ?_ _ | refine blk_drew ?_ | refine blk_alloc ?_ _)); exact BK879.out⟩
                      have n3_ : Aside0 (Below w.heap.size w ((w94.setCell ⟨gb879, 0, none⟩ (.int .i64 t876)).setCell ⟨gb879, 1, none⟩ (.int .i64 t877))) := ⟨bl_⟩
                      (try clear HO_19)
                      (try clear HO_20)
                      (try clear BK879)
                      (try clear HB)
                      generalize ((w94.setCell ⟨gb879, 0, none⟩ (.int .i64 t876)).setCell ⟨gb879, 1, none⟩ (.int .i64 t877)) = w100 at n0_ n1_ n2_ n3_ ⊢
                      have HO_19 := n0_
                      have HO_20 := n1_
                      have BK879 := n2_
                      have HB := n3_
                      clear n0_ n1_ n2_ n3_
                      have n0_ := a_ (Kd.R_drew HO_19.out)
                      have n1_ := a_ (Kd.R_drew HO_20.out)
                      have n2_ := a_ (blk_drew BK879.out)
                      have n3_ := a_ (below_drew1 HB.out)
                      clear HO_19
                      clear HO_20
                      clear BK879
                      clear HB
                      have HO_19 := n0_
                      have HO_20 := n1_
                      have BK879 := n2_
                      have HB := n3_
                      clear n0_ n1_ n2_ n3_
                      obtain ⟨Ao102, co102, eo102⟩ := Kd.R_slice HO_20.out
                      (first | subst eo102 | (injection eo102 with f1_ f2_ f3_; have f4_ := f1_.symm; have f5_ := f3_.symm; clear f1_ f2_ f3_; subst f4_; subst f5_))
                      have p880 : 0 ≤ (a3 : Int) := of_decide_eq_true (by first | (with_reducible assumption) | assumption)
                      have q880 : a3 < (x20_3.length : Int) := of_decide_eq_true (by first | (with_reducible assumption) | assumption)
                      obtain ⟨ad880, e880, hx880_0⟩ := Kd.at_int (Kd.R_reads' HO_20.out).2.2 a3 p880 q880
                      cases e880
                      replace p880 := eq_true p880
                      replace q880 := eq_true q880
                      refine start_ (n := 20) (S := fun w' => w'.cell? ⟨gb879, 0, none⟩ = some (.int .i64 t876) ∧ w'.cell? ⟨gb879, 1, none⟩ = some (.int .i64 t877) ∧ w'.cell? (ad880.add (a3).toNat) = some (.int .i64 (rd x20_3 a3))) (ds := []) #[false, false, false, false, false, false, false, false, false, false, false, false, false, false, false, false, false, false, false, false] (by kernel_rfl) rfl rfl ⟨(blk_cell BK879.out 0).trans rfl, (blk_cell BK879.out 1).trans rfl, hx880_0⟩ (fun hHeld => ?_); refine with_tabW waterhourlaw04_RefillTruth.tab28 waterhourlaw04_RefillTruth.bits28 (fun HT_ HW_ => ?_)
                      generalize w100.drew = w101 at HO_19 HO_20 BK879 HB hx880_0 hHeld ⊢
                      refine pz_ 0 154 HT_ ?_
                      refine pz_ 1 155 HT_ ?_
                      refine pz_ 2 156 HT_ ?_
                      refine pz_ 3 157 HT_ ?_
                      refine pz_ 4 158 HT_ ?_
                      refine pz_ 5 159 HT_ ?_
                      refine pz_ 7 161 HT_ ?_
                      refine take_ (i := 6) (N := some 160) (v := ?_) (a' := ?_) #[true, true, true, true, true, true, true, true, false, false, false, false, false, false, false, false, false, false, false, false] rfl rfl (take_ofW HT_.out HW_.out (by kernel_rfl)) (fun _ _ _ h => h) (Or.inl ⟨by rfl, ?_⟩) hHeld ?_ ?_
                      rotate_left
                      ·rintro w' ⟨s0, s1, s2⟩
                       go_simp
                       with_reducible rfl
                      rotate_left
                      ·simp only [Act.put, List.setIfInBounds_toArray, List.set_cons_zero, List.set_cons_succ, i64_w, i32_w]
                       rfl
                      refine take_ (i := 8) (N := some 162) (v := ?_) (a' := ?_) #[true, true, true, true, true, true, true, true, true, false, false, false, false, false, false, false, false, false, false, false] rfl rfl (take_ofW HT_.out HW_.out (by kernel_rfl)) (fun _ _ _ h => h) (Or.inl ⟨by rfl, ?_⟩) hHeld ?_ ?_
                      rotate_left
                      ·rintro w' ⟨s0, s1, s2⟩
                       go_simp
                       with_reducible rfl
                      rotate_left
                      ·simp only [Act.put, List.setIfInBounds_toArray, List.set_cons_zero, List.set_cons_succ, i64_w, i32_w]
                       rfl
                      refine pz_ 9 163 HT_ ?_
                      refine pz_ 10 164 HT_ ?_
                      refine pz_ 11 165 HT_ ?_
                      refine pu_ 12 166 HT_ ?_
                      refine pu_ 13 167 HT_ ?_
                      refine pu_ 14 168 HT_ ?_
                      refine pu_ 15 169 HT_ ?_
                      refine pu_ 16 170 HT_ ?_
                      refine pu_ 17 171 HT_ ?_
                      refine pu_ 18 172 HT_ ?_
                      refine pz_ 19 173 HT_ ?_
                      refine done_ (done_of HT_.out (by kernel_rfl)) ?_
                      try go_wp2
                      go_meet
                      case rel => exact ⟨_, (true), (by first | rfl | (simp; done) | (simp [*]; done)), H', ⟨by have := HJ10.out; have := HK2.out; have := HK3.out; have := HJ73.out; have := HJ85.out; first | omega | exact Nat.le_refl _⟩, ⟨rl_ HO_19.out⟩, ⟨rl_ HO_20.out⟩, ⟨bk_ BK879.out⟩, ⟨bl_⟩⟩
                     ·rw [if_neg c99] at H
                      have c99b0 : decide ((rd x20_3 a3) < t876) = false := decide_eq_false c99
                      clear c99
                      have H' := a_ H
                      clear H
                      try go_wp2
                      have n0_ : Aside0 (Kd.R k51 51 ((w94.setCell ⟨gb879, 0, none⟩ (.int .i64 t876)).setCell ⟨gb879, 1, none⟩ (.int .i64 t877)) w.heap.size (fun k_ => (w.heap.size ≤ k_)) (.slice Ao92 x19_3.length co92) x19_3) := ⟨by (with_reducible repeat (first | apply Kd.R_alloc | apply Kd.R_drewN | apply Kd.R_drew)); exact Kd.R_mono (Kd.R_far (p := ⟨gb879, 1, none⟩) (Kd.R_far (p := ⟨gb879, 0, none⟩) (Kd.R_types HO_19.out BK879.out (by decide)) (fun _ hk => hk.2) (.int .i64 t876)) (fun _ hk => hk.2) (.int .i64 t877)) (fun _ hk => hk.1)⟩
                      have n1_ : Aside0 (Kd.R (Kd.int .i64) 3 ((w94.setCell ⟨gb879, 0, none⟩ (.int .i64 t876)).setCell ⟨gb879, 1, none⟩ (.int .i64 t877)) w.heap.size (fun k_ => (w.heap.size ≤ k_)) u20 x20_3) := ⟨by (with_reducible repeat (first | apply Kd.R_alloc | apply Kd.R_drewN | apply Kd.R_drew)); exact Kd.R_mono (Kd.R_far (p := ⟨gb879, 1, none⟩) (Kd.R_far (p := ⟨gb879, 0, none⟩) (Kd.R_types HO_20.out BK879.out (by decide)) (fun _ hk => hk.2) (.int .i64 t876)) (fun _ hk => hk.2) (.int .i64 t877)) (fun _ hk => hk.1)⟩
                      have n2_ : Aside0 (((w94.setCell ⟨gb879, 0, none⟩ (.int .i64 t876)).setCell ⟨gb879, 1, none⟩ (.int .i64 t877)).heap[gb879]? = some (.cells #[.int .i64 t876, .int .i64 t877] 49 (0, 0))) := ⟨by (with_reducible repeat (first | refine blk_drewN ?_ _ | refine blk_drew ?_ | refine blk_alloc ?_ _)); refine blk_put (cs := #[.int .i64 t876, .int .i64 0]) ?_ 1 _ rfl; (with_reducible repeat (first | refine blk_drewN ?_ _ | refine blk_drew ?_ | refine blk_alloc ?_ _)); refine blk_put (cs := #[.int .i64 0, .int .i64 0]) ?_ 0 _ rfl; (with_reducible repeat (first | refine blk_drewN ?_ _ | refine blk_drew ?_ | refine blk_alloc ?_ _)); exact BK879.out⟩
                      have n3_ : Aside0 (Below w.heap.size w ((w94.setCell ⟨gb879, 0, none⟩ (.int .i64 t876)).setCell ⟨gb879, 1, none⟩ (.int .i64 t877))) := ⟨bl_⟩
                      (try clear HO_19)
                      (try clear HO_20)
                      (try clear BK879)
                      (try clear HB)
                      generalize ((w94.setCell ⟨gb879, 0, none⟩ (.int .i64 t876)).setCell ⟨gb879, 1, none⟩ (.int .i64 t877)) = w103 at n0_ n1_ n2_ n3_ ⊢
                      have HO_19 := n0_
                      have HO_20 := n1_
                      have BK879 := n2_
                      have HB := n3_
                      clear n0_ n1_ n2_ n3_
                      have n0_ := a_ (Kd.R_drew HO_19.out)
                      have n1_ := a_ (Kd.R_drew HO_20.out)
                      have n2_ := a_ (blk_drew BK879.out)
                      have n3_ := a_ (below_drew1 HB.out)
                      clear HO_19
                      clear HO_20
                      clear BK879
                      clear HB
                      have HO_19 := n0_
                      have HO_20 := n1_
                      have BK879 := n2_
                      have HB := n3_
                      clear n0_ n1_ n2_ n3_
                      obtain ⟨Ao105, co105, eo105⟩ := Kd.R_slice HO_20.out
                      (first | subst eo105 | (injection eo105 with f1_ f2_ f3_; have f4_ := f1_.symm; have f5_ := f3_.symm; clear f1_ f2_ f3_; subst f4_; subst f5_))
                      have p880 : 0 ≤ (a3 : Int) := of_decide_eq_true (by first | (with_reducible assumption) | assumption)
                      have q880 : a3 < (x20_3.length : Int) := of_decide_eq_true (by first | (with_reducible assumption) | assumption)
                      obtain ⟨ad880, e880, hx880_0⟩ := Kd.at_int (Kd.R_reads' HO_20.out).2.2 a3 p880 q880
                      cases e880
                      replace p880 := eq_true p880
                      replace q880 := eq_true q880
                      have p881 : 0 ≤ (a3 : Int) := of_decide_eq_true (by first | (with_reducible assumption) | assumption)
                      have q881 : a3 < (x20_3.length : Int) := of_decide_eq_true (by first | (with_reducible assumption) | assumption)
                      obtain ⟨ad881, e881, hx881_0⟩ := Kd.at_int (Kd.R_reads' HO_20.out).2.2 a3 p881 q881
                      obtain rfl : ad880 = ad881 := (by injection e881)
                      replace p881 := eq_true p881
                      replace q881 := eq_true q881
                      refine start_ (n := 20) (S := fun w' => w'.cell? ⟨gb879, 0, none⟩ = some (.int .i64 t876) ∧ w'.cell? ⟨gb879, 1, none⟩ = some (.int .i64 t877) ∧ w'.cell? (ad880.add (a3).toNat) = some (.int .i64 (rd x20_3 a3)) ∧ w'.cell? (ad880.add (a3).toNat) = some (.int .i64 (rd x20_3 a3))) (ds := []) #[false, false, false, false, false, false, false, false, false, false, false, false, false, false, false, false, false, false, false, false] (by kernel_rfl) rfl rfl ⟨(blk_cell BK879.out 0).trans rfl, (blk_cell BK879.out 1).trans rfl, hx880_0, hx881_0⟩ (fun hHeld => ?_); refine with_tabW waterhourlaw04_RefillTruth.tab28 waterhourlaw04_RefillTruth.bits28 (fun HT_ HW_ => ?_)
                      generalize w103.drew = w104 at HO_19 HO_20 BK879 HB hx880_0 hx881_0 hHeld ⊢
                      refine pz_ 0 154 HT_ ?_
                      refine pz_ 1 155 HT_ ?_
                      refine pz_ 2 156 HT_ ?_
                      refine pz_ 3 157 HT_ ?_
                      refine pz_ 4 158 HT_ ?_
                      refine pz_ 5 159 HT_ ?_
                      refine pz_ 7 161 HT_ ?_
                      refine take_ (i := 6) (N := some 160) (v := ?_) (a' := ?_) #[true, true, true, true, true, true, true, true, false, false, false, false, false, false, false, false, false, false, false, false] rfl rfl (take_ofW HT_.out HW_.out (by kernel_rfl)) (fun _ _ _ h => h) (Or.inl ⟨by rfl, ?_⟩) hHeld ?_ ?_
                      rotate_left
                      ·rintro w' ⟨s0, s1, s2, s3⟩
                       go_simp
                       with_reducible rfl
                      rotate_left
                      ·simp only [Act.put, List.setIfInBounds_toArray, List.set_cons_zero, List.set_cons_succ, i64_w, i32_w]
                       rfl
                      refine take_ (i := 8) (N := some 162) (v := ?_) (a' := ?_) #[true, true, true, true, true, true, true, true, true, false, false, false, false, false, false, false, false, false, false, false] rfl rfl (take_ofW HT_.out HW_.out (by kernel_rfl)) (fun _ _ _ h => h) (Or.inl ⟨by rfl, ?_⟩) hHeld ?_ ?_
                      rotate_left
                      ·rintro w' ⟨s0, s1, s2, s3⟩
                       go_simp
                       with_reducible rfl
                      rotate_left
                      ·simp only [Act.put, List.setIfInBounds_toArray, List.set_cons_zero, List.set_cons_succ, i64_w, i32_w]
                       rfl
                      refine pz_ 9 163 HT_ ?_
                      refine pz_ 10 164 HT_ ?_
                      refine pz_ 11 165 HT_ ?_
                      refine pz_ 12 166 HT_ ?_
                      refine pz_ 13 167 HT_ ?_
                      refine pz_ 14 168 HT_ ?_
                      refine pz_ 16 170 HT_ ?_
                      refine take_ (i := 15) (N := some 169) (v := ?_) (a' := ?_) #[true, true, true, true, true, true, true, true, true, true, true, true, true, true, true, true, true, false, false, false] rfl rfl (take_ofW HT_.out HW_.out (by kernel_rfl)) (fun _ _ _ h => h) (Or.inl ⟨by rfl, ?_⟩) hHeld ?_ ?_
                      rotate_left
                      ·rintro w' ⟨s0, s1, s2, s3⟩
                       go_simp
                       with_reducible rfl
                      rotate_left
                      ·simp only [Act.put, List.setIfInBounds_toArray, List.set_cons_zero, List.set_cons_succ, i64_w, i32_w]
                       rfl
                      refine take_ (i := 17) (N := some 171) (v := ?_) (a' := ?_) #[true, true, true, true, true, true, true, true, true, true, true, true, true, true, true, true, true, true, false, false] rfl rfl (take_ofW HT_.out HW_.out (by kernel_rfl)) (fun _ _ _ h => h) (Or.inl ⟨by rfl, ?_⟩) hHeld ?_ ?_
                      rotate_left
                      ·rintro w' ⟨s0, s1, s2, s3⟩
                       go_simp
                       with_reducible rfl
                      rotate_left
                      ·simp only [Act.put, List.setIfInBounds_toArray, List.set_cons_zero, List.set_cons_succ, i64_w, i32_w]
                       rfl
                      refine pz_ 18 172 HT_ ?_
                      refine pz_ 19 173 HT_ ?_
                      refine done_ (done_of HT_.out (by kernel_rfl)) ?_
                      try go_wp2
                      go_meet
                      case rel => exact ⟨_, (decide ((rd x20_3 a3) > t877)), (by first | rfl | (simp; done) | (simp [*]; done)), H', ⟨by have := HJ10.out; have := HK2.out; have := HK3.out; have := HJ73.out; have := HJ85.out; first | omega | exact Nat.le_refl _⟩, ⟨rl_ HO_19.out⟩, ⟨rl_ HO_20.out⟩, ⟨bk_ BK879.out⟩, ⟨bl_⟩⟩
                    ·rw [if_neg c98] at H
                     exact absurd H (by simp)
                   ·rw [if_neg c97] at H
                    exact absurd H (by simp)
                  ·rw [if_neg c96] at H
                   have c96b0 : (t878 == 0) = false := beq_eq_false_iff_ne.mpr c96
                   have c96b1 : (t878 != 0) = true := bne_iff_ne.mpr c96
                   (first | rw [c96b0] | (simp only [i64_w, i32_w]; rw [c96b0]) | skip)
                   have H' := a_ H
                   clear H
                   try go_wp2
                   have n0_ : Aside0 (Kd.R k51 51 ((w94.setCell ⟨gb879, 0, none⟩ (.int .i64 t876)).setCell ⟨gb879, 1, none⟩ (.int .i64 t877)) w.heap.size (fun k_ => (w.heap.size ≤ k_)) (.slice Ao92 x19_3.length co92) x19_3) := ⟨by (with_reducible repeat (first | apply Kd.R_alloc | apply Kd.R_drewN | apply Kd.R_drew)); exact Kd.R_mono (Kd.R_far (p := ⟨gb879, 1, none⟩) (Kd.R_far (p := ⟨gb879, 0, none⟩) (Kd.R_types HO_19.out BK879.out (by decide)) (fun _ hk => hk.2) (.int .i64 t876)) (fun _ hk => hk.2) (.int .i64 t877)) (fun _ hk => hk.1)⟩
                   have n1_ : Aside0 (Kd.R (Kd.int .i64) 3 ((w94.setCell ⟨gb879, 0, none⟩ (.int .i64 t876)).setCell ⟨gb879, 1, none⟩ (.int .i64 t877)) w.heap.size (fun k_ => (w.heap.size ≤ k_)) u20 x20_3) := ⟨by (with_reducible repeat (first | apply Kd.R_alloc | apply Kd.R_drewN | apply Kd.R_drew)); exact Kd.R_mono (Kd.R_far (p := ⟨gb879, 1, none⟩) (Kd.R_far (p := ⟨gb879, 0, none⟩) (Kd.R_types HO_20.out BK879.out (by decide)) (fun _ hk => hk.2) (.int .i64 t876)) (fun _ hk => hk.2) (.int .i64 t877)) (fun _ hk => hk.1)⟩
                   have n2_ : Aside0 (((w94.setCell ⟨gb879, 0, none⟩ (.int .i64 t876)).setCell ⟨gb879, 1, none⟩ (.int .i64 t877)).heap[gb879]? = some (.cells #[.int .i64 t876, .int .i64 t877] 49 (0, 0))) := ⟨by (with_reducible repeat (first | refine blk_drewN ?_ _ | refine blk_drew ?_ | refine blk_alloc ?_ _)); refine blk_put (cs := #[.int .i64 t876, .int .i64 0]) ?_ 1 _ rfl; (with_reducible repeat (first | refine blk_drewN ?_ _ | refine blk_drew ?_ | refine blk_alloc ?_ _)); refine blk_put (cs := #[.int .i64 0, .int .i64 0]) ?_ 0 _ rfl; (with_reducible repeat (first | refine blk_drewN ?_ _ | refine blk_drew ?_ | refine blk_alloc ?_ _)); exact BK879.out⟩
                   have n3_ : Aside0 (Below w.heap.size w ((w94.setCell ⟨gb879, 0, none⟩ (.int .i64 t876)).setCell ⟨gb879, 1, none⟩ (.int .i64 t877))) := ⟨bl_⟩
                   (try clear HO_19)
                   (try clear HO_20)
                   (try clear BK879)
                   (try clear HB)
                   generalize ((w94.setCell ⟨gb879, 0, none⟩ (.int .i64 t876)).setCell ⟨gb879, 1, none⟩ (.int .i64 t877)) = w106 at n0_ n1_ n2_ n3_ ⊢
                   have HO_19 := n0_
                   have HO_20 := n1_
                   have BK879 := n2_
                   have HB := n3_
                   clear n0_ n1_ n2_ n3_
                   have n0_ := a_ (Kd.R_drew HO_19.out)
                   have n1_ := a_ (Kd.R_drew HO_20.out)
                   have n2_ := a_ (blk_drew BK879.out)
                   have n3_ := a_ (below_drew1 HB.out)
                   clear HO_19
                   clear HO_20
                   clear BK879
                   clear HB
                   have HO_19 := n0_
                   have HO_20 := n1_
                   have BK879 := n2_
                   have HB := n3_
                   clear n0_ n1_ n2_ n3_
                   refine start_ (n := 20) (S := fun w' => True) (ds := []) #[false, false, false, false, false, false, false, false, false, false, false, false, false, false, false, false, false, false, false, false] (by kernel_rfl) rfl rfl trivial (fun hHeld => ?_); refine with_tabW waterhourlaw04_RefillTruth.tab28 waterhourlaw04_RefillTruth.bits28 (fun HT_ HW_ => ?_)
                   generalize w106.drew = w107 at HO_19 HO_20 BK879 HB hHeld ⊢
                   refine pz_ 0 154 HT_ ?_
                   refine pz_ 1 155 HT_ ?_
                   refine pz_ 2 156 HT_ ?_
                   refine pu_ 3 157 HT_ ?_
                   refine pu_ 4 158 HT_ ?_
                   refine pu_ 5 159 HT_ ?_
                   refine pu_ 6 160 HT_ ?_
                   refine pu_ 7 161 HT_ ?_
                   refine pu_ 8 162 HT_ ?_
                   refine pu_ 9 163 HT_ ?_
                   refine pz_ 10 164 HT_ ?_
                   refine pz_ 11 165 HT_ ?_
                   refine pu_ 12 166 HT_ ?_
                   refine pu_ 13 167 HT_ ?_
                   refine pu_ 14 168 HT_ ?_
                   refine pu_ 15 169 HT_ ?_
                   refine pu_ 16 170 HT_ ?_
                   refine pu_ 17 171 HT_ ?_
                   refine pu_ 18 172 HT_ ?_
                   refine pz_ 19 173 HT_ ?_
                   refine done_ (done_of HT_.out (by kernel_rfl)) ?_
                   try go_wp2
                   go_meet
                   case rel => exact ⟨_, (true), (by first | rfl | (simp; done) | (simp [*]; done)), H', ⟨by have := HJ10.out; have := HK2.out; have := HK3.out; have := HJ73.out; have := HJ85.out; first | omega | exact Nat.le_refl _⟩, ⟨rl_ HO_19.out⟩, ⟨rl_ HO_20.out⟩, ⟨bk_ BK879.out⟩, ⟨bl_⟩⟩
                 case rest =>
                  clear HC91
                  try clear p2
                  try clear c4
                  try clear c8
                  try clear p8
                  try clear q8
                  try clear hx8
                  try clear c9
                  try clear c43
                  try clear q85
                  try clear q86
                  try clear p88
                  try clear q88
                  try clear hx88
                  try clear c89
                  try clear c96
                  try clear c96b0
                  try clear c96b1
                  try clear c97
                  try clear c97b0
                  try clear c98
                  try clear c98b0
                  try clear c99
                  try clear c99b0
                  try clear hcz95_0
                  try clear hcz95_1
                  try clear hfz95_0
                  try clear hfz95_1
                  try clear hx880_0
                  try clear hx881_0
                  try clear p880
                  try clear p881
                  try clear q856
                  try clear q857
                  try clear q859
                  try clear q860
                  try clear q861
                  try clear q880
                  try clear q881
                  obtain ⟨kq, x173_90, rfl, HA, HJ90, HO_19, HO_20, BK879, HB⟩ := hcut
                  cases kq with
                  | zero => exact absurd HA.out (by simp [waterhourlaw04_RefillTruth.j5])
                  | succ kj90 =>
                   have H := HA.out
                   clear HA
                   simp only [waterhourlaw04_RefillTruth.j5] at H
                   by_cases c108 : x173_90 = true
                   ·subst c108
                    have H1 : (some false) = some r := by rw [if_pos rfl] at H; exact H
                    clear H
                    have H := H1
                    clear H1
                    exact absurd (H.trans (congrArg some hrt.out)) (by simp)
                   ·replace c108 := Bool.eq_false_iff.mpr c108
                    subst c108
                    have H1 : ((refill_CheckProof.f kj90 x19_3 a3 false a5 a4).bind fun t882 => (if t882 = 0 then (if 0 ≤ a3 then (if a3 < (x20_3.length : Int) then (if (rd x20_3 a3) < a5 then (some false) else ((refill_CheckProof.f kj90 x19_3 a3 true a5 a4).bind fun t884 => (if t884 = 0 then (some (decide ((rd x20_3 a3) ≤ a5))) else (some true)))) else (none)) else (none)) else ((refill_CheckProof.f kj90 x19_3 a3 true a5 a4).bind fun t886 => (if t886 = 0 then (if 0 ≤ a3 then (if a3 < (x20_3.length : Int) then (some (decide ((rd x20_3 a3) ≤ a5))) else (none)) else (none)) else (some true))))) = some r := by rw [if_neg (show ¬ (false = true) by decide)] at H; exact H
                    clear H
                    have H := H1
                    clear H1
                    replace H := Option.bind_eq_some_iff.mp H
                    obtain ⟨t882, A1090, H⟩ := H
                    replace H : (if t882 = 0 then (if 0 ≤ a3 then (if a3 < (x20_3.length : Int) then (if (rd x20_3 a3) < a5 then (some false) else ((refill_CheckProof.f kj90 x19_3 a3 true a5 a4).bind fun t884 => (if t884 = 0 then (some (decide ((rd x20_3 a3) ≤ a5))) else (some true)))) else (none)) else (none)) else ((refill_CheckProof.f kj90 x19_3 a3 true a5 a4).bind fun t886 => (if t886 = 0 then (if 0 ≤ a3 then (if a3 < (x20_3.length : Int) then (some (decide ((rd x20_3 a3) ≤ a5))) else (none)) else (none)) else (some true)))) = some r := H
                    have A109 := a_ A1090
                    clear A1090
                    by_cases c110 : t882 = 0
                    ·rw [if_pos c110] at H
                     have c110b0 : (t882 == 0) = true := beq_iff_eq.mpr c110
                     have c110b1 : (t882 != 0) = false := bne_eq_false_iff_eq.mpr c110
                     clear c110
                     by_cases c111 : 0 ≤ a3
                     ·rw [if_pos c111] at H
                      have c111b0 : decide (0 ≤ a3) = true := decide_eq_true c111
                      clear c111
                      by_cases c112 : a3 < (x20_3.length : Int)
                      ·rw [if_pos c112] at H
                       have c112b0 : decide (a3 < (x20_3.length : Int)) = true := decide_eq_true c112
                       clear c112
                       by_cases c113 : (rd x20_3 a3) < a5
                       ·rw [if_pos c113] at H
                        have c113b0 : decide ((rd x20_3 a3) < a5) = true := decide_eq_true c113
                        clear c113
                        exact absurd (H.trans (congrArg some hrt.out)) (by simp)
                       ·rw [if_neg c113] at H
                        have c113b0 : decide ((rd x20_3 a3) < a5) = false := decide_eq_false c113
                        clear c113
                        replace H := Option.bind_eq_some_iff.mp H
                        obtain ⟨t884, A1140, H⟩ := H
                        replace H : (if t884 = 0 then (some (decide ((rd x20_3 a3) ≤ a5))) else (some true)) = some r := H
                        have A114 := a_ A1140
                        clear A1140
                        by_cases c115 : t884 = 0
                        ·rw [if_pos c115] at H
                         have c115b0 : (t884 == 0) = true := beq_iff_eq.mpr c115
                         have c115b1 : (t884 != 0) = false := bne_eq_false_iff_eq.mpr c115
                         clear c115
                         obtain rfl := Option.some.inj H
                         go_wp2_with (first | ((with_reducible refine gate_callee (f := 29) rfl ?_); refine goesL_ (some 178) rfl rfl Tryd.func29 (by kernel_rfl) rfl #[.slice Ao92 x19_3.length co92, .int .i64 a3, .bool false, .int .i64 a5, .int .i64 a4] rfl tm_ ?_; (with_reducible refine (refill_CheckProof.calls kj90 _ _ x19_3 a3 false a5 a4 t882 _ ?side1 ?side2 A109.out).mono ?_); (case side1 => exact cl_ ((Kd.R_reads' HO_19.out).2.2)); (case side2 => exact (Kd.R_reads' HO_19.out).2.1); rintro e w116 ⟨rfl, hb⟩; refine ⟨_, rfl, ?_⟩; have n0_ := a_ (Kd.R_below (rl_ HO_19.out) hb); have n1_ := a_ (Kd.R_below (rl_ HO_20.out) hb); have n2_ := a_ (bb_ BK879.out hb); have n3_ := a_ (below_step bl_ hb); clear HO_19; clear HO_20; clear BK879; clear HB; have HO_19 := n0_; have HO_20 := n1_; have BK879 := n2_; have HB := n3_; clear n0_ n1_ n2_ n3_; (try clear hb); (try clear hb2); (try clear hk); (try clear hi); obtain ⟨Ao117, co117, eo117⟩ := Kd.R_slice HO_20.out; subst eo117; have p883 : 0 ≤ (a3 : Int) := of_decide_eq_true (by first | (with_reducible assumption) | assumption); have q883 : a3 < (x20_3.length : Int) := of_decide_eq_true (by first | (with_reducible assumption) | assumption); obtain ⟨ad883, e883, hx883_0⟩ := Kd.at_int (Kd.R_reads' HO_20.out).2.2 a3 p883 q883; cases e883; replace p883 := eq_true p883; replace q883 := eq_true q883) | ((with_reducible refine gate_callee (f := 29) rfl ?_); refine goesL_ (some 192) rfl rfl Tryd.func29 (by kernel_rfl) rfl #[.slice Ao92 x19_3.length co92, .int .i64 a3, .bool true, .int .i64 a5, .int .i64 a4] rfl tm_ ?_; (with_reducible refine (refill_CheckProof.calls kj90 _ _ x19_3 a3 true a5 a4 t884 _ ?side1 ?side2 A114.out).mono ?_); (case side1 => exact cl_ ((Kd.R_reads' HO_19.out).2.2)); (case side2 => exact (Kd.R_reads' HO_19.out).2.1); rintro e w118 ⟨rfl, hb⟩; refine ⟨_, rfl, ?_⟩; have n0_ := a_ (Kd.R_below (rl_ HO_19.out) hb); have n1_ := a_ (Kd.R_below (rl_ HO_20.out) hb); have n2_ := a_ (bb_ BK879.out hb); have n3_ := a_ (below_step bl_ hb); clear HO_19; clear HO_20; clear BK879; clear HB; have HO_19 := n0_; have HO_20 := n1_; have BK879 := n2_; have HB := n3_; clear n0_ n1_ n2_ n3_; (try clear hb); (try clear hb2); (try clear hk); (try clear hi); have p885 : 0 ≤ (a3 : Int) := of_decide_eq_true (by first | (with_reducible assumption) | assumption); have q885 : a3 < (x20_3.length : Int) := of_decide_eq_true (by first | (with_reducible assumption) | assumption); obtain ⟨ad885, e885, hx885_0⟩ := Kd.at_int (Kd.R_reads' HO_20.out).2.2 a3 p885 q885; obtain rfl : ad883 = ad885 := (by injection e885); replace p885 := eq_true p885; replace q885 := eq_true q885))
                         go_ret
                         exact ⟨by first | rfl | (simp [errW_none, errW_some] <;> rfl) | (simp [*, errW_none, errW_some] <;> rfl), bl_⟩
                        ·rw [if_neg c115] at H
                         have c115b0 : (t884 == 0) = false := beq_eq_false_iff_ne.mpr c115
                         have c115b1 : (t884 != 0) = true := bne_iff_ne.mpr c115
                         obtain rfl := Option.some.inj H
                         go_wp2_with (first | ((with_reducible refine gate_callee (f := 29) rfl ?_); refine goesL_ (some 178) rfl rfl Tryd.func29 (by kernel_rfl) rfl #[.slice Ao92 x19_3.length co92, .int .i64 a3, .bool false, .int .i64 a5, .int .i64 a4] rfl tm_ ?_; (with_reducible refine (refill_CheckProof.calls kj90 _ _ x19_3 a3 false a5 a4 t882 _ ?side1 ?side2 A109.out).mono ?_); (case side1 => exact cl_ ((Kd.R_reads' HO_19.out).2.2)); (case side2 => exact (Kd.R_reads' HO_19.out).2.1); rintro e w119 ⟨rfl, hb⟩; refine ⟨_, rfl, ?_⟩; have n0_ := a_ (Kd.R_below (rl_ HO_19.out) hb); have n1_ := a_ (Kd.R_below (rl_ HO_20.out) hb); have n2_ := a_ (bb_ BK879.out hb); have n3_ := a_ (below_step bl_ hb); clear HO_19; clear HO_20; clear BK879; clear HB; have HO_19 := n0_; have HO_20 := n1_; have BK879 := n2_; have HB := n3_; clear n0_ n1_ n2_ n3_; (try clear hb); (try clear hb2); (try clear hk); (try clear hi); obtain ⟨Ao120, co120, eo120⟩ := Kd.R_slice HO_20.out; subst eo120; have p883 : 0 ≤ (a3 : Int) := of_decide_eq_true (by first | (with_reducible assumption) | assumption); have q883 : a3 < (x20_3.length : Int) := of_decide_eq_true (by first | (with_reducible assumption) | assumption); obtain ⟨ad883, e883, hx883_0⟩ := Kd.at_int (Kd.R_reads' HO_20.out).2.2 a3 p883 q883; cases e883; replace p883 := eq_true p883; replace q883 := eq_true q883) | ((with_reducible refine gate_callee (f := 29) rfl ?_); refine goesL_ (some 192) rfl rfl Tryd.func29 (by kernel_rfl) rfl #[.slice Ao92 x19_3.length co92, .int .i64 a3, .bool true, .int .i64 a5, .int .i64 a4] rfl tm_ ?_; (with_reducible refine (refill_CheckProof.calls kj90 _ _ x19_3 a3 true a5 a4 t884 _ ?side1 ?side2 A114.out).mono ?_); (case side1 => exact cl_ ((Kd.R_reads' HO_19.out).2.2)); (case side2 => exact (Kd.R_reads' HO_19.out).2.1); rintro e w121 ⟨rfl, hb⟩; refine ⟨_, rfl, ?_⟩; have n0_ := a_ (Kd.R_below (rl_ HO_19.out) hb); have n1_ := a_ (Kd.R_below (rl_ HO_20.out) hb); have n2_ := a_ (bb_ BK879.out hb); have n3_ := a_ (below_step bl_ hb); clear HO_19; clear HO_20; clear BK879; clear HB; have HO_19 := n0_; have HO_20 := n1_; have BK879 := n2_; have HB := n3_; clear n0_ n1_ n2_ n3_; (try clear hb); (try clear hb2); (try clear hk); (try clear hi)))
                         go_ret
                         exact ⟨by first | rfl | (simp [errW_none, errW_some] <;> rfl) | (simp [*, errW_none, errW_some] <;> rfl), bl_⟩
                      ·rw [if_neg c112] at H
                       exact absurd H (by simp)
                     ·rw [if_neg c111] at H
                      exact absurd H (by simp)
                    ·rw [if_neg c110] at H
                     have c110b0 : (t882 == 0) = false := beq_eq_false_iff_ne.mpr c110
                     have c110b1 : (t882 != 0) = true := bne_iff_ne.mpr c110
                     replace H := Option.bind_eq_some_iff.mp H
                     obtain ⟨t886, A1220, H⟩ := H
                     replace H : (if t886 = 0 then (if 0 ≤ a3 then (if a3 < (x20_3.length : Int) then (some (decide ((rd x20_3 a3) ≤ a5))) else (none)) else (none)) else (some true)) = some r := H
                     have A122 := a_ A1220
                     clear A1220
                     by_cases c123 : t886 = 0
                     ·rw [if_pos c123] at H
                      have c123b0 : (t886 == 0) = true := beq_iff_eq.mpr c123
                      have c123b1 : (t886 != 0) = false := bne_eq_false_iff_eq.mpr c123
                      clear c123
                      by_cases c124 : 0 ≤ a3
                      ·rw [if_pos c124] at H
                       have c124b0 : decide (0 ≤ a3) = true := decide_eq_true c124
                       clear c124
                       by_cases c125 : a3 < (x20_3.length : Int)
                       ·rw [if_pos c125] at H
                        have c125b0 : decide (a3 < (x20_3.length : Int)) = true := decide_eq_true c125
                        clear c125
                        obtain rfl := Option.some.inj H
                        go_wp2_with (first | ((with_reducible refine gate_callee (f := 29) rfl ?_); refine goesL_ (some 178) rfl rfl Tryd.func29 (by kernel_rfl) rfl #[.slice Ao92 x19_3.length co92, .int .i64 a3, .bool false, .int .i64 a5, .int .i64 a4] rfl tm_ ?_; (with_reducible refine (refill_CheckProof.calls kj90 _ _ x19_3 a3 false a5 a4 t882 _ ?side1 ?side2 A109.out).mono ?_); (case side1 => exact cl_ ((Kd.R_reads' HO_19.out).2.2)); (case side2 => exact (Kd.R_reads' HO_19.out).2.1); rintro e w126 ⟨rfl, hb⟩; refine ⟨_, rfl, ?_⟩; have n0_ := a_ (Kd.R_below (rl_ HO_19.out) hb); have n1_ := a_ (Kd.R_below (rl_ HO_20.out) hb); have n2_ := a_ (bb_ BK879.out hb); have n3_ := a_ (below_step bl_ hb); clear HO_19; clear HO_20; clear BK879; clear HB; have HO_19 := n0_; have HO_20 := n1_; have BK879 := n2_; have HB := n3_; clear n0_ n1_ n2_ n3_; (try clear hb); (try clear hb2); (try clear hk); (try clear hi)) | ((with_reducible refine gate_callee (f := 29) rfl ?_); refine goesL_ (some 192) rfl rfl Tryd.func29 (by kernel_rfl) rfl #[.slice Ao92 x19_3.length co92, .int .i64 a3, .bool true, .int .i64 a5, .int .i64 a4] rfl tm_ ?_; (with_reducible refine (refill_CheckProof.calls kj90 _ _ x19_3 a3 true a5 a4 t886 _ ?side1 ?side2 A122.out).mono ?_); (case side1 => exact cl_ ((Kd.R_reads' HO_19.out).2.2)); (case side2 => exact (Kd.R_reads' HO_19.out).2.1); rintro e w127 ⟨rfl, hb⟩; refine ⟨_, rfl, ?_⟩; have n0_ := a_ (Kd.R_below (rl_ HO_19.out) hb); have n1_ := a_ (Kd.R_below (rl_ HO_20.out) hb); have n2_ := a_ (bb_ BK879.out hb); have n3_ := a_ (below_step bl_ hb); clear HO_19; clear HO_20; clear BK879; clear HB; have HO_19 := n0_; have HO_20 := n1_; have BK879 := n2_; have HB := n3_; clear n0_ n1_ n2_ n3_; (try clear hb); (try clear hb2); (try clear hk); (try clear hi); obtain ⟨Ao128, co128, eo128⟩ := Kd.R_slice HO_20.out; subst eo128; have p887 : 0 ≤ (a3 : Int) := of_decide_eq_true (by first | (with_reducible assumption) | assumption); have q887 : a3 < (x20_3.length : Int) := of_decide_eq_true (by first | (with_reducible assumption) | assumption); obtain ⟨ad887, e887, hx887_0⟩ := Kd.at_int (Kd.R_reads' HO_20.out).2.2 a3 p887 q887; cases e887; replace p887 := eq_true p887; replace q887 := eq_true q887))
                        go_ret
                        exact ⟨by first | rfl | (simp [errW_none, errW_some] <;> rfl) | (simp [*, errW_none, errW_some] <;> rfl), bl_⟩
                       ·rw [if_neg c125] at H
                        exact absurd H (by simp)
                      ·rw [if_neg c124] at H
                       exact absurd H (by simp)
                     ·rw [if_neg c123] at H
                      have c123b0 : (t886 == 0) = false := beq_eq_false_iff_ne.mpr c123
                      have c123b1 : (t886 != 0) = true := bne_iff_ne.mpr c123
                      obtain rfl := Option.some.inj H
                      go_wp2_with (first | ((with_reducible refine gate_callee (f := 29) rfl ?_); refine goesL_ (some 178) rfl rfl Tryd.func29 (by kernel_rfl) rfl #[.slice Ao92 x19_3.length co92, .int .i64 a3, .bool false, .int .i64 a5, .int .i64 a4] rfl tm_ ?_; (with_reducible refine (refill_CheckProof.calls kj90 _ _ x19_3 a3 false a5 a4 t882 _ ?side1 ?side2 A109.out).mono ?_); (case side1 => exact cl_ ((Kd.R_reads' HO_19.out).2.2)); (case side2 => exact (Kd.R_reads' HO_19.out).2.1); rintro e w129 ⟨rfl, hb⟩; refine ⟨_, rfl, ?_⟩; have n0_ := a_ (Kd.R_below (rl_ HO_19.out) hb); have n1_ := a_ (Kd.R_below (rl_ HO_20.out) hb); have n2_ := a_ (bb_ BK879.out hb); have n3_ := a_ (below_step bl_ hb); clear HO_19; clear HO_20; clear BK879; clear HB; have HO_19 := n0_; have HO_20 := n1_; have BK879 := n2_; have HB := n3_; clear n0_ n1_ n2_ n3_; (try clear hb); (try clear hb2); (try clear hk); (try clear hi)) | ((with_reducible refine gate_callee (f := 29) rfl ?_); refine goesL_ (some 192) rfl rfl Tryd.func29 (by kernel_rfl) rfl #[.slice Ao92 x19_3.length co92, .int .i64 a3, .bool true, .int .i64 a5, .int .i64 a4] rfl tm_ ?_; (with_reducible refine (refill_CheckProof.calls kj90 _ _ x19_3 a3 true a5 a4 t886 _ ?side1 ?side2 A122.out).mono ?_); (case side1 => exact cl_ ((Kd.R_reads' HO_19.out).2.2)); (case side2 => exact (Kd.R_reads' HO_19.out).2.1); rintro e w130 ⟨rfl, hb⟩; refine ⟨_, rfl, ?_⟩; have n0_ := a_ (Kd.R_below (rl_ HO_19.out) hb); have n1_ := a_ (Kd.R_below (rl_ HO_20.out) hb); have n2_ := a_ (bb_ BK879.out hb); have n3_ := a_ (below_step bl_ hb); clear HO_19; clear HO_20; clear BK879; clear HB; have HO_19 := n0_; have HO_20 := n1_; have BK879 := n2_; have HB := n3_; clear n0_ n1_ n2_ n3_; (try clear hb); (try clear hb2); (try clear hk); (try clear hi)))
                      go_ret
                      exact ⟨by first | rfl | (simp [errW_none, errW_some] <;> rfl) | (simp [*, errW_none, errW_some] <;> rfl), bl_⟩
 ·replace c10 := Bool.eq_false_iff.mpr c10
  subst c10
  have H1 : (some false) = some r := by rw [if_neg (show ¬ (false = true) by decide)] at H; exact H
  clear H
  have H := H1
  clear H1
  exact absurd (H.trans (congrArg some hrt.out)) (by simp)

end Go.Proofs.YtgiihjcpgjpkcaaDoor.Q
