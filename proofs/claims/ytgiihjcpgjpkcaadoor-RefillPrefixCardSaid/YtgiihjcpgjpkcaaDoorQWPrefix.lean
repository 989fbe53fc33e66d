/- Contracts of functions of the given program: each Go function as a plain Lean function (name.f) and the proof that its call answers just so, for every reading of its arguments. Written by the session's program wip/xprint.py out of the translation. -/
import Derived.Test.YtgiihjcpgjpkcaaDoorQ0
import Derived.Test.YtgiihjcpgjpkcaaDoorQC
import Derived.Test.YtgiihjcpgjpkcaaDoorQE
import Derived.Test.YtgiihjcpgjpkcaaDoorQF
import Derived.Test.YtgiihjcpgjpkcaaDoorQO
import Derived.Test.YtgiihjcpgjpkcaaDoorHContains
import Derived.Test.YtgiihjcpgjpkcaaDoorHCut
import Derived.Test.YtgiihjcpgjpkcaaDoorHSane
namespace Go.Proofs.YtgiihjcpgjpkcaaDoor.Q
open Go.RowKit Go.Proofs.YtgiihjcpgjpkcaaDoorW.PrintWords Go.Proofs.YtgiihjcpgjpkcaaDoorW.PrintLast Go.Proofs.YtgiihjcpgjpkcaaDoorW.PrintMore
attribute [local go_sem] max2_int min2_int max_two min_two max_three min_three max_four min_four   -- for this text's walks alone
set_option linter.unusedVariables false
set_option linter.unusedSimpArgs false

attribute [local go_sem high] eqA49
/-! ### waterhourlaw04_RefillPrefix: function 15 -/
mutual
def waterhourlaw04_RefillPrefix.j0 : Nat → List (S51) → Int → Int → Bool → Option (Bool)
 | 0, _, _, _, _ => none
 | k + 1, x0, x1, x2, x40 => if x40 = true then (some true) else (if 0 ≤ x1 then (if x1 ≤ (x0.length : Int) then ((some (x0.take (x1 : Int).toNat : List (S51))).bind fun y823 => ((refill_Time.f k y823 x2).bind fun bt827 => ((refill_Time.f k x0 x2).bind fun bt831 => ((refill_Between.f k y823 (wrap64 (x2 - 1)) x2).bind fun bt835 => ((refill_Between.f k x0 (wrap64 (x2 - 1)) x2).bind fun bt839 => (if bt827.2.2 = bt835.2.2 then (if bt831.2.2 = bt839.2.2 then (if bt827.2.2 = 0 then (if bt831.2.2 = 0 then (if bt827.2.2 = 31 then (waterhourlaw04_RefillPrefix.j1 k x0 x1 bt831.2.2 (bt831.2.2 != bt827.2.2) bt827.1 bt827.2.1 bt831.1 bt831.2.1 bt835.1 bt835.2.1 bt839.1 bt839.2.1) else (waterhourlaw04_RefillPrefix.j1 k x0 x1 bt831.2.2 false bt827.1 bt827.2.1 bt831.1 bt831.2.1 bt835.1 bt835.2.1 bt839.1 bt839.2.1)) else (if bt831.2.2 = 31 then (if bt827.2.2 = 31 then (waterhourlaw04_RefillPrefix.j1 k x0 x1 bt831.2.2 (bt831.2.2 != bt827.2.2) bt827.1 bt827.2.1 bt831.1 bt831.2.1 bt835.1 bt835.2.1 bt839.1 bt839.2.1) else (waterhourlaw04_RefillPrefix.j1 k x0 x1 bt831.2.2 false bt827.1 bt827.2.1 bt831.1 bt831.2.1 bt835.1 bt835.2.1 bt839.1 bt839.2.1)) else (waterhourlaw04_RefillPrefix.j1 k x0 x1 bt831.2.2 true bt827.1 bt827.2.1 bt831.1 bt831.2.1 bt835.1 bt835.2.1 bt839.1 bt839.2.1))) else (if bt827.2.2 = 31 then (if bt831.2.2 = 0 then (waterhourlaw04_RefillPrefix.j1 k x0 x1 bt831.2.2 (bt831.2.2 != bt827.2.2) bt827.1 bt827.2.1 bt831.1 bt831.2.1 bt835.1 bt835.2.1 bt839.1 bt839.2.1) else (if bt831.2.2 = 31 then (waterhourlaw04_RefillPrefix.j1 k x0 x1 bt831.2.2 (bt831.2.2 != bt827.2.2) bt827.1 bt827.2.1 bt831.1 bt831.2.1 bt835.1 bt835.2.1 bt839.1 bt839.2.1) else (waterhourlaw04_RefillPrefix.j1 k x0 x1 bt831.2.2 true bt827.1 bt827.2.1 bt831.1 bt831.2.1 bt835.1 bt835.2.1 bt839.1 bt839.2.1))) else (waterhourlaw04_RefillPrefix.j1 k x0 x1 bt831.2.2 true bt827.1 bt827.2.1 bt831.1 bt831.2.1 bt835.1 bt835.2.1 bt839.1 bt839.2.1))) else (waterhourlaw04_RefillPrefix.j1 k x0 x1 bt831.2.2 true bt827.1 bt827.2.1 bt831.1 bt831.2.1 bt835.1 bt835.2.1 bt839.1 bt839.2.1)) else (waterhourlaw04_RefillPrefix.j1 k x0 x1 bt831.2.2 true bt827.1 bt827.2.1 bt831.1 bt831.2.1 bt835.1 bt835.2.1 bt839.1 bt839.2.1))))))) else (none)) else (none))
def waterhourlaw04_RefillPrefix.j1 : Nat → List (S51) → Int → Int → Bool → Int → Int → Int → Int → Int → Int → Int → Int → Option (Bool)
 | 0, _, _, _, _, _, _, _, _, _, _, _, _ => none
 | k + 1, x0, x1, x11, x105, x831000, x831001, x835000, x835001, x839000, x839001, x843000, x843001 => if x105 = true then (some false) else (if x11 = 0 then (if x831000 > x835000 then (some false) else (if x831001 < x835001 then (some false) else (if x839000 > x843000 then (some false) else (if x839001 < x843001 then (some false) else (if 0 ≤ x1 then (if x1 ≤ (x0.length : Int) then ((slices_ContainsDay.f (x0.drop (x1 : Int).toNat) 56).bind fun t847 => (if t847 = true then (some true) else (if (x831000 == x835000 && (x831001 == x835001)) = true then (some (x839000 == x843000 && (x839001 == x843001))) else (some false)))) else (none)) else (none)))))) else (some true))
end
def waterhourlaw04_RefillPrefix.f (k : Nat) (l0 : List (S51)) (a1 : Int) (a2 : Int) : Option (Bool) := (law_sane.f).bind fun t821 => (if t821 = true then ((waterhourref04_Valid.f k l0).bind fun t822 => (if t822 = true then (if a1 < 1 then (waterhourlaw04_RefillPrefix.j0 k l0 a1 a2 true) else (if a1 > (l0.length : Int) then (waterhourlaw04_RefillPrefix.j0 k l0 a1 a2 true) else (if a2 < 0 then (waterhourlaw04_RefillPrefix.j0 k l0 a1 a2 true) else (waterhourlaw04_RefillPrefix.j0 k l0 a1 a2 (decide (a2 ≥ a1)))))) else (waterhourlaw04_RefillPrefix.j0 k l0 a1 a2 true))) else (some false))
theorem waterhourlaw04_RefillPrefix.mono_l : ∀ k, (∀ y0 y1 y2 y3, LeO (waterhourlaw04_RefillPrefix.j0 k y0 y1 y2 y3) (waterhourlaw04_RefillPrefix.j0 (k + 1) y0 y1 y2 y3)) ∧ (∀ y0 y1 y2 y3 y4 y5 y6 y7 y8 y9 y10 y11, LeO (waterhourlaw04_RefillPrefix.j1 k y0 y1 y2 y3 y4 y5 y6 y7 y8 y9 y10 y11) (waterhourlaw04_RefillPrefix.j1 (k + 1) y0 y1 y2 y3 y4 y5 y6 y7 y8 y9 y10 y11))
 | 0 => ⟨fun _ _ _ _ r h => by simp [waterhourlaw04_RefillPrefix.j0] at h, fun _ _ _ _ _ _ _ _ _ _ _ _ r h => by simp [waterhourlaw04_RefillPrefix.j1] at h⟩
 | k + 1 => by
  obtain ⟨ih0, ih1⟩ := waterhourlaw04_RefillPrefix.mono_l k
  refine ⟨?_, ?_⟩
  ·intro y0 y1 y2 y3
   unfold waterhourlaw04_RefillPrefix.j0
   repeat' first
   | (with_reducible exact ih0 _ _ _ _)
   | (with_reducible exact ih1 _ _ _ _ _ _ _ _ _ _ _ _)
   | (with_reducible exact refill_Between.mono _ _ _ _)
   | (with_reducible exact refill_Time.mono _ _ _)
   | (with_reducible exact waterhourref04_Valid.mono _ _)
   | (with_reducible exact LeO.refl _)
   | (with_reducible exact LeO.none _)
   | (with_reducible refine LeO.ite ?_ ?_)
   | (with_reducible refine LeO.bind ?_ (fun _ => ?_))
   | exact ih0 _ _ _ _
   | exact ih1 _ _ _ _ _ _ _ _ _ _ _ _
   | exact refill_Between.mono _ _ _ _
   | exact refill_Time.mono _ _ _
   | exact waterhourref04_Valid.mono _ _
   | exact LeO.none _
   | refine LeO.ite ?_ ?_
   | refine LeO.bind ?_ (fun _ => ?_)
  ·intro y0 y1 y2 y3 y4 y5 y6 y7 y8 y9 y10 y11
   unfold waterhourlaw04_RefillPrefix.j1
   repeat' first
   | (with_reducible exact ih0 _ _ _ _)
   | (with_reducible exact ih1 _ _ _ _ _ _ _ _ _ _ _ _)
   | (with_reducible exact refill_Between.mono _ _ _ _)
   | (with_reducible exact refill_Time.mono _ _ _)
   | (with_reducible exact waterhourref04_Valid.mono _ _)
   | (with_reducible exact LeO.refl _)
   | (with_reducible exact LeO.none _)
   | (with_reducible refine LeO.ite ?_ ?_)
   | (with_reducible refine LeO.bind ?_ (fun _ => ?_))
   | exact ih0 _ _ _ _
   | exact ih1 _ _ _ _ _ _ _ _ _ _ _ _
   | exact refill_Between.mono _ _ _ _
   | exact refill_Time.mono _ _ _
   | exact waterhourref04_Valid.mono _ _
   | exact LeO.none _
   | refine LeO.ite ?_ ?_
   | refine LeO.bind ?_ (fun _ => ?_)
theorem waterhourlaw04_RefillPrefix.mono : ∀ a0 a1 a2 k, LeO (waterhourlaw04_RefillPrefix.f k a0 a1 a2) (waterhourlaw04_RefillPrefix.f (k + 1) a0 a1 a2) := by
 intro a0 a1 a2 k
 obtain ⟨ih0, ih1⟩ := waterhourlaw04_RefillPrefix.mono_l k
 unfold waterhourlaw04_RefillPrefix.f
 repeat' first
   | (with_reducible exact ih0 _ _ _ _)
   | (with_reducible exact ih1 _ _ _ _ _ _ _ _ _ _ _ _)
   | (with_reducible exact refill_Between.mono _ _ _ _)
   | (with_reducible exact refill_Time.mono _ _ _)
   | (with_reducible exact waterhourref04_Valid.mono _ _)
   | (with_reducible exact LeO.refl _)
   | (with_reducible exact LeO.none _)
   | (with_reducible refine LeO.ite ?_ ?_)
   | (with_reducible refine LeO.bind ?_ (fun _ => ?_))
   | exact ih0 _ _ _ _
   | exact ih1 _ _ _ _ _ _ _ _ _ _ _ _
   | exact refill_Between.mono _ _ _ _
   | exact refill_Time.mono _ _ _
   | exact waterhourref04_Valid.mono _ _
   | exact LeO.none _
   | refine LeO.ite ?_ ?_
   | refine LeO.bind ?_ (fun _ => ?_)
set_option maxHeartbeats 8000000 in
set_option maxRecDepth 100000 in
theorem waterhourlaw04_RefillPrefix.calls (k : Nat) (A0 : Option Addr) (c0 : Nat) (l0 : List (S51)) (a1 : Int) (a2 : Int) (r : Bool) (w : World) (hr0 : Kd.C k51 w A0 l0.length l0) (hc0 : l0.length ≤ c0) (ht : TabB w) (hrt : Aside0 (r = true)) (h : waterhourlaw04_RefillPrefix.f k l0 a1 a2 = some r) :
  Calls Tryd.prog 15 #[.slice A0 l0.length c0, .int .i64 a1, .int .i64 a2] w fun e w' => e = .returned (.bool r) ∧ Below w.heap.size w w' := by
 have hu49 := Tryd.underlying49
 have HR0 := a_ hr0
 have HC0 := a_ hc0
 clear hr0 hc0
 have HT := a_ ht
 clear ht
 have HB := a_ (Below.refl w.heap.size w)
 have H : ((law_sane.f).bind fun t821 => (if t821 = true then ((waterhourref04_Valid.f k l0).bind fun t822 => (if t822 = true then (if a1 < 1 then (waterhourlaw04_RefillPrefix.j0 k l0 a1 a2 true) else (if a1 > (l0.length : Int) then (waterhourlaw04_RefillPrefix.j0 k l0 a1 a2 true) else (if a2 < 0 then (waterhourlaw04_RefillPrefix.j0 k l0 a1 a2 true) else (waterhourlaw04_RefillPrefix.j0 k l0 a1 a2 (decide (a2 ≥ a1)))))) else (waterhourlaw04_RefillPrefix.j0 k l0 a1 a2 true))) else (some false))) = some r := h
 clear h
 replace H := Option.bind_eq_some_iff.mp H
 obtain ⟨t821, A40, H⟩ := H
 replace H : (if t821 = true then ((waterhourref04_Valid.f k l0).bind fun t822 => (if t822 = true then (if a1 < 1 then (waterhourlaw04_RefillPrefix.j0 k l0 a1 a2 true) else (if a1 > (l0.length : Int) then (waterhourlaw04_RefillPrefix.j0 k l0 a1 a2 true) else (if a2 < 0 then (waterhourlaw04_RefillPrefix.j0 k l0 a1 a2 true) else (waterhourlaw04_RefillPrefix.j0 k l0 a1 a2 (decide (a2 ≥ a1)))))) else (waterhourlaw04_RefillPrefix.j0 k l0 a1 a2 true))) else (some false)) = some r := H
 have A4 := a_ A40
 clear A40
 by_cases c5 : t821 = true
 ·subst c5
  have H1 : ((waterhourref04_Valid.f k l0).bind fun t822 => (if t822 = true then (if a1 < 1 then (waterhourlaw04_RefillPrefix.j0 k l0 a1 a2 true) else (if a1 > (l0.length : Int) then (waterhourlaw04_RefillPrefix.j0 k l0 a1 a2 true) else (if a2 < 0 then (waterhourlaw04_RefillPrefix.j0 k l0 a1 a2 true) else (waterhourlaw04_RefillPrefix.j0 k l0 a1 a2 (decide (a2 ≥ a1)))))) else (waterhourlaw04_RefillPrefix.j0 k l0 a1 a2 true))) = some r := by rw [if_pos rfl] at H; exact H
  clear H
  have H := H1
  clear H1
  have HC6 := a_ H
  clear H
  go_enter Tryd.func15, Tryd.ntmps15
  go_upto_region 3 with (first | ((with_reducible refine gate_callee (f := 18) rfl ?_); refine goesL_ (some 17) rfl rfl Tryd.func18 (by kernel_rfl) rfl #[] rfl tm_ ?_; (with_reducible refine (law_sane.calls  true _ ?side1 A4.out).mono ?_); (case side1 => exact TabB.below HT.out bl_); rintro e w7 ⟨rfl, hb⟩; refine ⟨_, rfl, ?_⟩; have n0_ := a_ (below_step bl_ hb); clear HB; have HB := n0_; clear n0_; (try clear hb); (try clear hb2); (try clear hk); (try clear hi)))
  (try simp only [Act.put, List.setIfInBounds_toArray, List.set_cons_zero, List.set_cons_succ])
  go_cut [40] (fun v40 wc => ∃ (kq : Nat) (x40_5 : Bool), v40 = .bool x40_5 ∧ Aside0 (waterhourlaw04_RefillPrefix.j0 kq l0 a1 a2 x40_5 = some r) ∧ Aside0 (kq ≤ k) ∧ Aside0 (Below w.heap.size w wc))
  case first => as_aux_lemma =>
   have H := HC6.out
   clear HC6
   replace H := Option.bind_eq_some_iff.mp H
   obtain ⟨t822, A80, H⟩ := H
   replace H : (if t822 = true then (if a1 < 1 then (waterhourlaw04_RefillPrefix.j0 k l0 a1 a2 true) else (if a1 > (l0.length : Int) then (waterhourlaw04_RefillPrefix.j0 k l0 a1 a2 true) else (if a2 < 0 then (waterhourlaw04_RefillPrefix.j0 k l0 a1 a2 true) else (waterhourlaw04_RefillPrefix.j0 k l0 a1 a2 (decide (a2 ≥ a1)))))) else (waterhourlaw04_RefillPrefix.j0 k l0 a1 a2 true)) = some r := H
   have A8 := a_ A80
   clear A80
   by_cases c9 : t822 = true
   ·subst c9
    have H1 : (if a1 < 1 then (waterhourlaw04_RefillPrefix.j0 k l0 a1 a2 true) else (if a1 > (l0.length : Int) then (waterhourlaw04_RefillPrefix.j0 k l0 a1 a2 true) else (if a2 < 0 then (waterhourlaw04_RefillPrefix.j0 k l0 a1 a2 true) else (waterhourlaw04_RefillPrefix.j0 k l0 a1 a2 (decide (a2 ≥ a1)))))) = some r := by rw [if_pos rfl] at H; exact H
    clear H
    have H := H1
    clear H1
    by_cases c10 : a1 < 1
    ·rw [if_pos c10] at H
     have c10b0 : decide (a1 < 1) = true := decide_eq_true c10
     clear c10
     (first | rw [c10b0] | (simp only [i64_w, i32_w]; rw [c10b0]) | skip)
     have H' := a_ H
     clear H
     go_wp2_with (first | ((with_reducible refine gate_callee (f := 31) rfl ?_); refine goesL_ (some 20) rfl rfl Tryd.func31 (by kernel_rfl) rfl #[.slice A0 l0.length c0] rfl tm_ ?_; (with_reducible refine (waterhourref04_Valid.calls k _ _ l0 true _ ?side1 ?side2 A8.out).mono ?_); (case side1 => exact cl_ (Kd.C_below HR0.out HB.out)); (case side2 => exact HC0.out); rintro e w11 ⟨rfl, hb⟩; refine ⟨_, rfl, ?_⟩; have n0_ := a_ (below_step bl_ hb); clear HB; have HB := n0_; clear n0_; (try clear hb); (try clear hb2); (try clear hk); (try clear hi)))
     go_meet
     case rel => exact ⟨_, (true), (by first | rfl | (simp; done) | (simp [*]; done)), H', ⟨by first | omega | exact Nat.le_refl _⟩, ⟨bl_⟩⟩
    ·rw [if_neg c10] at H
     have c10b0 : decide (a1 < 1) = false := decide_eq_false c10
     clear c10
     (first | rw [c10b0] | (simp only [i64_w, i32_w]; rw [c10b0]) | skip)
     by_cases c12 : a1 > (l0.length : Int)
     ·rw [if_pos c12] at H
      have c12b0 : decide ((l0.length : Int) < a1) = true := decide_eq_true c12
      clear c12
      have H' := a_ H
      clear H
      go_wp2_with (first | ((with_reducible refine gate_callee (f := 31) rfl ?_); refine goesL_ (some 20) rfl rfl Tryd.func31 (by kernel_rfl) rfl #[.slice A0 l0.length c0] rfl tm_ ?_; (with_reducible refine (waterhourref04_Valid.calls k _ _ l0 true _ ?side1 ?side2 A8.out).mono ?_); (case side1 => exact cl_ (Kd.C_below HR0.out HB.out)); (case side2 => exact HC0.out); rintro e w13 ⟨rfl, hb⟩; refine ⟨_, rfl, ?_⟩; have n0_ := a_ (below_step bl_ hb); clear HB; have HB := n0_; clear n0_; (try clear hb); (try clear hb2); (try clear hk); (try clear hi)))
      go_meet
      case rel => exact ⟨_, (true), (by first | rfl | (simp; done) | (simp [*]; done)), H', ⟨by first | omega | exact Nat.le_refl _⟩, ⟨bl_⟩⟩
     ·rw [if_neg c12] at H
      have c12b0 : decide ((l0.length : Int) < a1) = false := decide_eq_false c12
      clear c12
      by_cases c14 : a2 < 0
      ·rw [if_pos c14] at H
       have c14b0 : decide (a2 < 0) = true := decide_eq_true c14
       clear c14
       have H' := a_ H
       clear H
       go_wp2_with (first | ((with_reducible refine gate_callee (f := 31) rfl ?_); refine goesL_ (some 20) rfl rfl Tryd.func31 (by kernel_rfl) rfl #[.slice A0 l0.length c0] rfl tm_ ?_; (with_reducible refine (waterhourref04_Valid.calls k _ _ l0 true _ ?side1 ?side2 A8.out).mono ?_); (case side1 => exact cl_ (Kd.C_below HR0.out HB.out)); (case side2 => exact HC0.out); rintro e w15 ⟨rfl, hb⟩; refine ⟨_, rfl, ?_⟩; have n0_ := a_ (below_step bl_ hb); clear HB; have HB := n0_; clear n0_; (try clear hb); (try clear hb2); (try clear hk); (try clear hi)))
       go_meet
       case rel => exact ⟨_, (true), (by first | rfl | (simp; done) | (simp [*]; done)), H', ⟨by first | omega | exact Nat.le_refl _⟩, ⟨bl_⟩⟩
      ·rw [if_neg c14] at H
       have c14b0 : decide (a2 < 0) = false := decide_eq_false c14
       clear c14
       have H' := a_ H
       clear H
       go_wp2_with (first | ((with_reducible refine gate_callee (f := 31) rfl ?_); refine goesL_ (some 20) rfl rfl Tryd.func31 (by kernel_rfl) rfl #[.slice A0 l0.length c0] rfl tm_ ?_; (with_reducible refine (waterhourref04_Valid.calls k _ _ l0 true _ ?side1 ?side2 A8.out).mono ?_); (case side1 => exact cl_ (Kd.C_below HR0.out HB.out)); (case side2 => exact HC0.out); rintro e w16 ⟨rfl, hb⟩; refine ⟨_, rfl, ?_⟩; have n0_ := a_ (below_step bl_ hb); clear HB; have HB := n0_; clear n0_; (try clear hb); (try clear hb2); (try clear hk); (try clear hi)))
       go_meet
       case rel => exact ⟨_, (decide (a2 ≥ a1)), (by first | rfl | (simp; done) | (simp [*]; done)), H', ⟨by first | omega | exact Nat.le_refl _⟩, ⟨bl_⟩⟩
   ·replace c9 := Bool.eq_false_iff.mpr c9
    subst c9
    have H1 : (waterhourlaw04_RefillPrefix.j0 k l0 a1 a2 true) = some r := by rw [if_neg (show ¬ (false = true) by decide)] at H; exact H
    clear H
    have H := H1
    clear H1
    have H' := a_ H
    clear H
    go_wp2_with (first | ((with_reducible refine gate_callee (f := 31) rfl ?_); refine goesL_ (some 20) rfl rfl Tryd.func31 (by kernel_rfl) rfl #[.slice A0 l0.length c0] rfl tm_ ?_; (with_reducible refine (waterhourref04_Valid.calls k _ _ l0 false _ ?side1 ?side2 A8.out).mono ?_); (case side1 => exact cl_ (Kd.C_below HR0.out HB.out)); (case side2 => exact HC0.out); rintro e w17 ⟨rfl, hb⟩; refine ⟨_, rfl, ?_⟩; have n0_ := a_ (below_step bl_ hb); clear HB; have HB := n0_; clear n0_; (try clear hb); (try clear hb2); (try clear hk); (try clear hi)))
    go_meet
    case rel => exact ⟨_, (true), (by first | rfl | (simp; done) | (simp [*]; done)), H', ⟨by first | omega | exact Nat.le_refl _⟩, ⟨bl_⟩⟩
  case rest =>
   clear HC6
   try clear c1
   try clear p2
   try clear c3
   try clear c5
   try clear c9
   try clear c10
   try clear c10b0
   try clear c12
   try clear c12b0
   try clear c14
   try clear c14b0
   try clear c15
   obtain ⟨kq, x40_5, rfl, HA, HJ5, HB⟩ := hcut
   cases kq with
   | zero => exact absurd HA.out (by simp [waterhourlaw04_RefillPrefix.j0])
   | succ kj5 =>
    have H := HA.out
    clear HA
    simp only [waterhourlaw04_RefillPrefix.j0] at H
    by_cases c18 : x40_5 = true
    ·subst c18
     have H1 : (some true) = some r := by rw [if_pos rfl] at H; exact H
     clear H
     have H := H1
     clear H1
     obtain rfl := Option.some.inj H
     go_wp2
     go_ret
     exact ⟨by first | rfl | (simp [errW_none, errW_some] <;> rfl) | (simp [*, errW_none, errW_some] <;> rfl), bl_⟩
    ·replace c18 := Bool.eq_false_iff.mpr c18
     subst c18
     have H1 : (if 0 ≤ a1 then (if a1 ≤ (l0.length : Int) then ((some (l0.take (a1 : Int).toNat : List (S51))).bind fun y823 => ((refill_Time.f kj5 y823 a2).bind fun bt827 => ((refill_Time.f kj5 l0 a2).bind fun bt831 => ((refill_Between.f kj5 y823 (wrap64 (a2 - 1)) a2).bind fun bt835 => ((refill_Between.f kj5 l0 (wrap64 (a2 - 1)) a2).bind fun bt839 => (if bt827.2.2 = bt835.2.2 then (if bt831.2.2 = bt839.2.2 then (if bt827.2.2 = 0 then (if bt831.2.2 = 0 then (if bt827.2.2 = 31 then (waterhourlaw04_RefillPrefix.j1 kj5 l0 a1 bt831.2.2 (bt831.2.2 != bt827.2.2) bt827.1 bt827.2.1 bt831.1 bt831.2.1 bt835.1 bt835.2.1 bt839.1 bt839.2.1) else (waterhourlaw04_RefillPrefix.j1 kj5 l0 a1 bt831.2.2 false bt827.1 bt827.2.1 bt831.1 bt831.2.1 bt835.1 bt835.2.1 bt839.1 bt839.2.1)) else (if bt831.2.2 = 31 then (if bt827.2.2 = 31 then (waterhourlaw04_RefillPrefix.j1 kj5 l0 a1 bt831.2.2 (bt831.2.2 != bt827.2.2) bt827.1 bt827.2.1 bt831.1 bt831.2.1 bt835.1 bt835.2.1 bt839.1 bt839.2.1) else (waterhourlaw04_RefillPrefix.j1 kj5 l0 a1 bt831.2.2 false bt827.1 bt827.2.1 bt831.1 bt831.2.1 bt835.1 bt835.2.1 bt839.1 bt839.2.1)) else (waterhourlaw04_RefillPrefix.j1 kj5 l0 a1 bt831.2.2 true bt827.1 bt827.2.1 bt831.1 bt831.2.1 bt835.1 bt835.2.1 bt839.1 bt839.2.1))) else (if bt827.2.2 = 31 then (if bt831.2.2 = 0 then (waterhourlaw04_RefillPrefix.j1 kj5 l0 a1 bt831.2.2 (bt831.2.2 != bt827.2.2) bt827.1 bt827.2.1 bt831.1 bt831.2.1 bt835.1 bt835.2.1 bt839.1 bt839.2.1) else (if bt831.2.2 = 31 then (waterhourlaw04_RefillPrefix.j1 kj5 l0 a1 bt831.2.2 (bt831.2.2 != bt827.2.2) bt827.1 bt827.2.1 bt831.1 bt831.2.1 bt835.1 bt835.2.1 bt839.1 bt839.2.1) else (waterhourlaw04_RefillPrefix.j1 kj5 l0 a1 bt831.2.2 true bt827.1 bt827.2.1 bt831.1 bt831.2.1 bt835.1 bt835.2.1 bt839.1 bt839.2.1))) else (waterhourlaw04_RefillPrefix.j1 kj5 l0 a1 bt831.2.2 true bt827.1 bt827.2.1 bt831.1 bt831.2.1 bt835.1 bt835.2.1 bt839.1 bt839.2.1))) else (waterhourlaw04_RefillPrefix.j1 kj5 l0 a1 bt831.2.2 true bt827.1 bt827.2.1 bt831.1 bt831.2.1 bt835.1 bt835.2.1 bt839.1 bt839.2.1)) else (waterhourlaw04_RefillPrefix.j1 kj5 l0 a1 bt831.2.2 true bt827.1 bt827.2.1 bt831.1 bt831.2.1 bt835.1 bt835.2.1 bt839.1 bt839.2.1))))))) else (none)) else (none)) = some r := by rw [if_neg (show ¬ (false = true) by decide)] at H; exact H
     clear H
     have H := H1
     clear H1
     by_cases c19 : 0 ≤ a1
     ·rw [if_pos c19] at H
      have c19b0 := eq_true c19
      have c19b1 : decide (0 ≤ a1) = true := decide_eq_true c19
      clear c19
      by_cases c20 : a1 ≤ (l0.length : Int)
      ·rw [if_pos c20] at H
       have c20b0 := eq_true c20
       have c20b1 : decide (a1 ≤ (l0.length : Int)) = true := decide_eq_true c20
       clear c20
       obtain ⟨y823, hy823⟩ : ∃ y_ : List (S51), y_ = (l0.take (a1 : Int).toNat) := ⟨_, rfl⟩
       replace H : ((refill_Time.f kj5 y823 a2).bind fun bt827 => ((refill_Time.f kj5 l0 a2).bind fun bt831 => ((refill_Between.f kj5 y823 (wrap64 (a2 - 1)) a2).bind fun bt835 => ((refill_Between.f kj5 l0 (wrap64 (a2 - 1)) a2).bind fun bt839 => (if bt827.2.2 = bt835.2.2 then (if bt831.2.2 = bt839.2.2 then (if bt827.2.2 = 0 then (if bt831.2.2 = 0 then (if bt827.2.2 = 31 then (waterhourlaw04_RefillPrefix.j1 kj5 l0 a1 bt831.2.2 (bt831.2.2 != bt827.2.2) bt827.1 bt827.2.1 bt831.1 bt831.2.1 bt835.1 bt835.2.1 bt839.1 bt839.2.1) else (waterhourlaw04_RefillPrefix.j1 kj5 l0 a1 bt831.2.2 false bt827.1 bt827.2.1 bt831.1 bt831.2.1 bt835.1 bt835.2.1 bt839.1 bt839.2.1)) else (if bt831.2.2 = 31 then (if bt827.2.2 = 31 then (waterhourlaw04_RefillPrefix.j1 kj5 l0 a1 bt831.2.2 (bt831.2.2 != bt827.2.2) bt827.1 bt827.2.1 bt831.1 bt831.2.1 bt835.1 bt835.2.1 bt839.1 bt839.2.1) else (waterhourlaw04_RefillPrefix.j1 kj5 l0 a1 bt831.2.2 false bt827.1 bt827.2.1 bt831.1 bt831.2.1 bt835.1 bt835.2.1 bt839.1 bt839.2.1)) else (waterhourlaw04_RefillPrefix.j1 kj5 l0 a1 bt831.2.2 true bt827.1 bt827.2.1 bt831.1 bt831.2.1 bt835.1 bt835.2.1 bt839.1 bt839.2.1))) else (if bt827.2.2 = 31 then (if bt831.2.2 = 0 then (waterhourlaw04_RefillPrefix.j1 kj5 l0 a1 bt831.2.2 (bt831.2.2 != bt827.2.2) bt827.1 bt827.2.1 bt831.1 bt831.2.1 bt835.1 bt835.2.1 bt839.1 bt839.2.1) else (if bt831.2.2 = 31 then (waterhourlaw04_RefillPrefix.j1 kj5 l0 a1 bt831.2.2 (bt831.2.2 != bt827.2.2) bt827.1 bt827.2.1 bt831.1 bt831.2.1 bt835.1 bt835.2.1 bt839.1 bt839.2.1) else (waterhourlaw04_RefillPrefix.j1 kj5 l0 a1 bt831.2.2 true bt827.1 bt827.2.1 bt831.1 bt831.2.1 bt835.1 bt835.2.1 bt839.1 bt839.2.1))) else (waterhourlaw04_RefillPrefix.j1 kj5 l0 a1 bt831.2.2 true bt827.1 bt827.2.1 bt831.1 bt831.2.1 bt835.1 bt835.2.1 bt839.1 bt839.2.1))) else (waterhourlaw04_RefillPrefix.j1 kj5 l0 a1 bt831.2.2 true bt827.1 bt827.2.1 bt831.1 bt831.2.1 bt835.1 bt835.2.1 bt839.1 bt839.2.1)) else (waterhourlaw04_RefillPrefix.j1 kj5 l0 a1 bt831.2.2 true bt827.1 bt827.2.1 bt831.1 bt831.2.1 bt835.1 bt835.2.1 bt839.1 bt839.2.1)))))) = some r := by first | (rw [hy823]; with_reducible exact H) | (have H2_ := (Option.bind_some _ _).symm.trans H; rw [hy823]; with_reducible exact H2_) | (have H2_ := (Option.bind_some _ _).symm.trans H; with_reducible exact H2_) | with_reducible exact H | (rw [hy823]; exact H) | exact H
       have Ny823 := a_ hy823
       clear hy823
       replace H := Option.bind_eq_some_iff.mp H
       obtain ⟨⟨t827, t828, t829⟩, A210, H⟩ := H
       replace H : ((refill_Time.f kj5 l0 a2).bind fun bt831 => ((refill_Between.f kj5 y823 (wrap64 (a2 - 1)) a2).bind fun bt835 => ((refill_Between.f kj5 l0 (wrap64 (a2 - 1)) a2).bind fun bt839 => (if t829 = bt835.2.2 then (if bt831.2.2 = bt839.2.2 then (if t829 = 0 then (if bt831.2.2 = 0 then (if t829 = 31 then (waterhourlaw04_RefillPrefix.j1 kj5 l0 a1 bt831.2.2 (bt831.2.2 != t829) t827 t828 bt831.1 bt831.2.1 bt835.1 bt835.2.1 bt839.1 bt839.2.1) else (waterhourlaw04_RefillPrefix.j1 kj5 l0 a1 bt831.2.2 false t827 t828 bt831.1 bt831.2.1 bt835.1 bt835.2.1 bt839.1 bt839.2.1)) else (if bt831.2.2 = 31 then (if t829 = 31 then (waterhourlaw04_RefillPrefix.j1 kj5 l0 a1 bt831.2.2 (bt831.2.2 != t829) t827 t828 bt831.1 bt831.2.1 bt835.1 bt835.2.1 bt839.1 bt839.2.1) else (waterhourlaw04_RefillPrefix.j1 kj5 l0 a1 bt831.2.2 false t827 t828 bt831.1 bt831.2.1 bt835.1 bt835.2.1 bt839.1 bt839.2.1)) else (waterhourlaw04_RefillPrefix.j1 kj5 l0 a1 bt831.2.2 true t827 t828 bt831.1 bt831.2.1 bt835.1 bt835.2.1 bt839.1 bt839.2.1))) else (if t829 = 31 then (if bt831.2.2 = 0 then (waterhourlaw04_RefillPrefix.j1 kj5 l0 a1 bt831.2.2 (bt831.2.2 != t829) t827 t828 bt831.1 bt831.2.1 bt835.1 bt835.2.1 bt839.1 bt839.2.1) else (if bt831.2.2 = 31 then (waterhourlaw04_RefillPrefix.j1 kj5 l0 a1 bt831.2.2 (bt831.2.2 != t829) t827 t828 bt831.1 bt831.2.1 bt835.1 bt835.2.1 bt839.1 bt839.2.1) else (waterhourlaw04_RefillPrefix.j1 kj5 l0 a1 bt831.2.2 true t827 t828 bt831.1 bt831.2.1 bt835.1 bt835.2.1 bt839.1 bt839.2.1))) else (waterhourlaw04_RefillPrefix.j1 kj5 l0 a1 bt831.2.2 true t827 t828 bt831.1 bt831.2.1 bt835.1 bt835.2.1 bt839.1 bt839.2.1))) else (waterhourlaw04_RefillPrefix.j1 kj5 l0 a1 bt831.2.2 true t827 t828 bt831.1 bt831.2.1 bt835.1 bt835.2.1 bt839.1 bt839.2.1)) else (waterhourlaw04_RefillPrefix.j1 kj5 l0 a1 bt831.2.2 true t827 t828 bt831.1 bt831.2.1 bt835.1 bt835.2.1 bt839.1 bt839.2.1))))) = some r := H
       have A21 := a_ A210
       clear A210
       replace H := Option.bind_eq_some_iff.mp H
       obtain ⟨⟨t831, t832, t833⟩, A220, H⟩ := H
       replace H : ((refill_Between.f kj5 y823 (wrap64 (a2 - 1)) a2).bind fun bt835 => ((refill_Between.f kj5 l0 (wrap64 (a2 - 1)) a2).bind fun bt839 => (if t829 = bt835.2.2 then (if t833 = bt839.2.2 then (if t829 = 0 then (if t833 = 0 then (if t829 = 31 then (waterhourlaw04_RefillPrefix.j1 kj5 l0 a1 t833 (t833 != t829) t827 t828 t831 t832 bt835.1 bt835.2.1 bt839.1 bt839.2.1) else (waterhourlaw04_RefillPrefix.j1 kj5 l0 a1 t833 false t827 t828 t831 t832 bt835.1 bt835.2.1 bt839.1 bt839.2.1)) else (if t833 = 31 then (if t829 = 31 then (waterhourlaw04_RefillPrefix.j1 kj5 l0 a1 t833 (t833 != t829) t827 t828 t831 t832 bt835.1 bt835.2.1 bt839.1 bt839.2.1) else (waterhourlaw04_RefillPrefix.j1 kj5 l0 a1 t833 false t827 t828 t831 t832 bt835.1 bt835.2.1 bt839.1 bt839.2.1)) else (waterhourlaw04_RefillPrefix.j1 kj5 l0 a1 t833 true t827 t828 t831 t832 bt835.1 bt835.2.1 bt839.1 bt839.2.1))) else (if t829 = 31 then (if t833 = 0 then (waterhourlaw04_RefillPrefix.j1 kj5 l0 a1 t833 (t833 != t829) t827 t828 t831 t832 bt835.1 bt835.2.1 bt839.1 bt839.2.1) else (if t833 = 31 then (waterhourlaw04_RefillPrefix.j1 kj5 l0 a1 t833 (t833 != t829) t827 t828 t831 t832 bt835.1 bt835.2.1 bt839.1 bt839.2.1) else (waterhourlaw04_RefillPrefix.j1 kj5 l0 a1 t833 true t827 t828 t831 t832 bt835.1 bt835.2.1 bt839.1 bt839.2.1))) else (waterhourlaw04_RefillPrefix.j1 kj5 l0 a1 t833 true t827 t828 t831 t832 bt835.1 bt835.2.1 bt839.1 bt839.2.1))) else (waterhourlaw04_RefillPrefix.j1 kj5 l0 a1 t833 true t827 t828 t831 t832 bt835.1 bt835.2.1 bt839.1 bt839.2.1)) else (waterhourlaw04_RefillPrefix.j1 kj5 l0 a1 t833 true t827 t828 t831 t832 bt835.1 bt835.2.1 bt839.1 bt839.2.1)))) = some r := H
       have A22 := a_ A220
       clear A220
       replace H := Option.bind_eq_some_iff.mp H
       obtain ⟨⟨t835, t836, t837⟩, A230, H⟩ := H
       replace H : ((refill_Between.f kj5 l0 (wrap64 (a2 - 1)) a2).bind fun bt839 => (if t829 = t837 then (if t833 = bt839.2.2 then (if t829 = 0 then (if t833 = 0 then (if t829 = 31 then (waterhourlaw04_RefillPrefix.j1 kj5 l0 a1 t833 (t833 != t829) t827 t828 t831 t832 t835 t836 bt839.1 bt839.2.1) else (waterhourlaw04_RefillPrefix.j1 kj5 l0 a1 t833 false t827 t828 t831 t832 t835 t836 bt839.1 bt839.2.1)) else (if t833 = 31 then (if t829 = 31 then (waterhourlaw04_RefillPrefix.j1 kj5 l0 a1 t833 (t833 != t829) t827 t828 t831 t832 t835 t836 bt839.1 bt839.2.1) else (waterhourlaw04_RefillPrefix.j1 kj5 l0 a1 t833 false t827 t828 t831 t832 t835 t836 bt839.1 bt839.2.1)) else (waterhourlaw04_RefillPrefix.j1 kj5 l0 a1 t833 true t827 t828 t831 t832 t835 t836 bt839.1 bt839.2.1))) else (if t829 = 31 then (if t833 = 0 then (waterhourlaw04_RefillPrefix.j1 kj5 l0 a1 t833 (t833 != t829) t827 t828 t831 t832 t835 t836 bt839.1 bt839.2.1) else (if t833 = 31 then (waterhourlaw04_RefillPrefix.j1 kj5 l0 a1 t833 (t833 != t829) t827 t828 t831 t832 t835 t836 bt839.1 bt839.2.1) else (waterhourlaw04_RefillPrefix.j1 kj5 l0 a1 t833 true t827 t828 t831 t832 t835 t836 bt839.1 bt839.2.1))) else (waterhourlaw04_RefillPrefix.j1 kj5 l0 a1 t833 true t827 t828 t831 t832 t835 t836 bt839.1 bt839.2.1))) else (waterhourlaw04_RefillPrefix.j1 kj5 l0 a1 t833 true t827 t828 t831 t832 t835 t836 bt839.1 bt839.2.1)) else (waterhourlaw04_RefillPrefix.j1 kj5 l0 a1 t833 true t827 t828 t831 t832 t835 t836 bt839.1 bt839.2.1))) = some r := H
       have A23 := a_ A230
       clear A230
       replace H := Option.bind_eq_some_iff.mp H
       obtain ⟨⟨t839, t840, t841⟩, A240, H⟩ := H
       replace H : (if t829 = t837 then (if t833 = t841 then (if t829 = 0 then (if t833 = 0 then (if t829 = 31 then (waterhourlaw04_RefillPrefix.j1 kj5 l0 a1 t833 (t833 != t829) t827 t828 t831 t832 t835 t836 t839 t840) else (waterhourlaw04_RefillPrefix.j1 kj5 l0 a1 t833 false t827 t828 t831 t832 t835 t836 t839 t840)) else (if t833 = 31 then (if t829 = 31 then (waterhourlaw04_RefillPrefix.j1 kj5 l0 a1 t833 (t833 != t829) t827 t828 t831 t832 t835 t836 t839 t840) else (waterhourlaw04_RefillPrefix.j1 kj5 l0 a1 t833 false t827 t828 t831 t832 t835 t836 t839 t840)) else (waterhourlaw04_RefillPrefix.j1 kj5 l0 a1 t833 true t827 t828 t831 t832 t835 t836 t839 t840))) else (if t829 = 31 then (if t833 = 0 then (waterhourlaw04_RefillPrefix.j1 kj5 l0 a1 t833 (t833 != t829) t827 t828 t831 t832 t835 t836 t839 t840) else (if t833 = 31 then (waterhourlaw04_RefillPrefix.j1 kj5 l0 a1 t833 (t833 != t829) t827 t828 t831 t832 t835 t836 t839 t840) else (waterhourlaw04_RefillPrefix.j1 kj5 l0 a1 t833 true t827 t828 t831 t832 t835 t836 t839 t840))) else (waterhourlaw04_RefillPrefix.j1 kj5 l0 a1 t833 true t827 t828 t831 t832 t835 t836 t839 t840))) else (waterhourlaw04_RefillPrefix.j1 kj5 l0 a1 t833 true t827 t828 t831 t832 t835 t836 t839 t840)) else (waterhourlaw04_RefillPrefix.j1 kj5 l0 a1 t833 true t827 t828 t831 t832 t835 t836 t839 t840)) = some r := H
       have A24 := a_ A240
       clear A240
       have HC25 := a_ H
       clear H
       have q26 : (a1 : Int) ≤ ((l0.length : Int) : Int) := of_decide_eq_true (by first | (with_reducible assumption) | assumption)
       obtain ⟨i026, hi026, _, hsz26, _⟩ := info_parts info51
       have hroom26 : l0.length ≤ c0 := HC0.out
       have hC26 : Kd.C k51 _ A0 l0.length l0 := HR0.out
       have hcut26 := cutMax.to (P := Tryd.prog) 23 51 .i64 Tryd.underlying23 hi026 A0 l0.length c0 a1 (of_decide_eq_true (by first | (with_reducible assumption) | assumption)) q26 hroom26
       have hr26 := Kd.C_take (m := (a1 : Int).toNat) hC26 (by omega)
       have hy26 : y823.length = (a1 : Int).toNat := (by rw [Ny823.out, List.length_take]; omega)
       rw [← Ny823.out] at hr26
       rw [← hy26] at hcut26
       have HR826 := a_ hr26
       have HC826 := a_ (show y823.length ≤ y823.length from by omega)
       clear hr26 hC26 hroom26 hi026 hsz26
       have KY26 := a_ hy26
       clear hy26
       replace q26 := eq_true q26
       go_upto_region 10 with (first | ((with_reducible refine gate_callee (f := 43) rfl ?_); refine goesL_ (some 48) rfl rfl Tryd.func43 (by kernel_rfl) rfl #[.slice A0 y823.length y823.length, .int .i64 a2] rfl tm_ ?_; (with_reducible refine (refill_Time.calls kj5 _ _ y823 a2 t827 t828 t829 _ ?side1 ?side2 A21.out).mono ?_); (case side1 => exact cl_ (Kd.C_below HR826.out HB.out)); (case side2 => exact HC826.out); rintro e w27 ⟨rfl, hb⟩; refine ⟨_, rfl, ?_⟩; have n0_ := a_ (below_step bl_ hb); clear HB; have HB := n0_; clear n0_; (try clear hb); (try clear hb2); (try clear hk); (try clear hi)) | ((with_reducible refine gate_dst (N := 8) rfl ?_); (try (refine gate_guard (by rfl) ?_; dsimp only)); refine box_event ?hg (N := 8) ?hd (cs := #[.int .i64 0, .int .i64 0]) (t := 49) ?hr ?_; (case hd => rfl); (case hg => rfl); (case hr => first | (go_simp; done) | (go_simp; rfl)); intro gb830 hg w28 hbox hb; have n0_ := a_ (below_step bl_ hb); have n1_ := a_ (hbox); have n2_ := a_ ((bz_ (w := w) hg)); have n3_ := a_ ((bz_ (w := w) hg)); clear HB; have HB := n0_; have BK830 := n1_; have GW830 := n2_; have GE830 := n3_; clear n0_ n1_ n2_ n3_; clear hb hbox hg; have hcz29_0 : w28.cell? ⟨gb830, 0, none⟩ = some (.int .i64 0) := (blk_cell BK830.out 0).trans rfl; have hcz29_1 : w28.cell? ⟨gb830, 1, none⟩ = some (.int .i64 0) := (blk_cell BK830.out 1).trans rfl; have hfz29_0 := blk_frozen BK830.out 0; have hfz29_1 := blk_frozen BK830.out 1) | ((with_reducible refine gate_callee (f := 43) rfl ?_); refine goesL_ (some 54) rfl rfl Tryd.func43 (by kernel_rfl) rfl #[.slice A0 l0.length c0, .int .i64 a2] rfl tm_ ?_; (with_reducible refine (refill_Time.calls kj5 _ _ l0 a2 t831 t832 t833 _ ?side1 ?side2 A22.out).mono ?_); (case side1 => exact Kd.C_below HR0.out bl_); (case side2 => exact HC0.out); rintro e w30 ⟨rfl, hb⟩; refine ⟨_, rfl, ?_⟩; have n0_ := a_ (blk_below (g := gb830) (o := .cells #[.int .i64 t827, .int .i64 t828] 49 (0, 0)) (by (with_reducible repeat (first | refine blk_drewN ?_ _ | refine blk_drew ?_ | refine blk_alloc ?_ _)); refine blk_put (cs := #[.int .i64 t827, .int .i64 0]) ?_ 1 _ rfl; (with_reducible repeat (first | refine blk_drewN ?_ _ | refine blk_drew ?_ | refine blk_alloc ?_ _)); refine blk_put (cs := #[.int .i64 0, .int .i64 0]) ?_ 0 _ rfl; (with_reducible repeat (first | refine blk_drewN ?_ _ | refine blk_drew ?_ | refine blk_alloc ?_ _)); exact BK830.out) hb); have n1_ := a_ (below_step bl_ hb); clear BK830; clear HB; have BK830 := n0_; have HB := n1_; clear n0_ n1_; (try clear hb); (try clear hb2); (try clear hk); (try clear hi)) | ((with_reducible refine gate_dst (N := 10) rfl ?_); (try (refine gate_guard (by rfl) ?_; dsimp only)); refine box_event ?hg (N := 10) ?hd (cs := #[.int .i64 0, .int .i64 0]) (t := 49) ?hr ?_; (case hd => rfl); (case hg => rfl); (case hr => first | (go_simp; done) | (go_simp; rfl)); intro gb834 hg w31 hbox hb; have n0_ := a_ (bb_ BK830.out hb); have n1_ := a_ (below_step bl_ hb); have n2_ := a_ (hbox); have n3_ := a_ ((bz_ (w := w) hg)); have n4_ := a_ ((bz_ (w := w) hg)); have n5_ := a_ ((nl_ BK830.out hg)); have n6_ := a_ ((ng_ BK830.out hg)); clear BK830; clear HB; have BK830 := n0_; have HB := n1_; have BK834 := n2_; have GW834 := n3_; have GE834 := n4_; have NB830_834 := n5_; have NB834_830 := n6_; clear n0_ n1_ n2_ n3_ n4_ n5_ n6_; clear hb hbox hg; have hnb32 := NB834_830.out; have hnc32 := NB830_834.out; have hcz33_0 : w31.cell? ⟨gb834, 0, none⟩ = some (.int .i64 0) := (blk_cell BK834.out 0).trans rfl; have hcz33_1 : w31.cell? ⟨gb834, 1, none⟩ = some (.int .i64 0) := (blk_cell BK834.out 1).trans rfl; have hfz33_0 := blk_frozen BK834.out 0; have hfz33_1 := blk_frozen BK834.out 1) | ((with_reducible refine gate_callee (f := 44) rfl ?_); refine goesL_ (some 62) rfl rfl Tryd.func44 (by kernel_rfl) rfl #[.slice A0 y823.length y823.length, .int .i64 (wrap64 (a2 - 1)), .int .i64 a2] rfl tm_ ?_; (with_reducible refine (refill_Between.calls kj5 _ _ y823 (wrap64 (a2 - 1)) a2 t835 t836 t837 _ ?side1 ?side2 A23.out).mono ?_); (case side1 => exact Kd.C_below HR826.out bl_); (case side2 => exact HC826.out); rintro e w34 ⟨rfl, hb⟩; refine ⟨_, rfl, ?_⟩; have n0_ := a_ (blk_below (g := gb830) (o := .cells #[.int .i64 t827, .int .i64 t828] 49 (0, 0)) (by (with_reducible repeat (first | refine blk_drewN ?_ _ | refine blk_drew ?_ | refine blk_alloc ?_ _)); refine blk_far ?_ NB830_834.out _; (with_reducible repeat (first | refine blk_drewN ?_ _ | refine blk_drew ?_ | refine blk_alloc ?_ _)); refine blk_far ?_ NB830_834.out _; (with_reducible repeat (first | refine blk_drewN ?_ _ | refine blk_drew ?_ | refine blk_alloc ?_ _)); exact BK830.out) hb); have n1_ := a_ (blk_below (g := gb834) (o := .cells #[.int .i64 t831, .int .i64 t832] 49 (0, 0)) (by (with_reducible repeat (first | refine blk_drewN ?_ _ | refine blk_drew ?_ | refine blk_alloc ?_ _)); refine blk_put (cs := #[.int .i64 t831, .int .i64 0]) ?_ 1 _ rfl; (with_reducible repeat (first | refine blk_drewN ?_ _ | refine blk_drew ?_ | refine blk_alloc ?_ _)); refine blk_put (cs := #[.int .i64 0, .int .i64 0]) ?_ 0 _ rfl; (with_reducible repeat (first | refine blk_drewN ?_ _ | refine blk_drew ?_ | refine blk_alloc ?_ _)); exact BK834.out) hb); have n2_ := a_ (below_step bl_ hb); clear BK830; clear BK834; clear HB; have BK830 := n0_; have BK834 := n1_; have HB := n2_; clear n0_ n1_ n2_; (try clear hb); (try clear hb2); (try clear hk); (try clear hi)) | ((with_reducible refine gate_dst (N := 12) rfl ?_); (try (refine gate_guard (by rfl) ?_; dsimp only)); refine box_event ?hg (N := 12) ?hd (cs := #[.int .i64 0, .int .i64 0]) (t := 49) ?hr ?_; (case hd => rfl); (case hg => rfl); (case hr => first | (go_simp; done) | (go_simp; rfl)); intro gb838 hg w35 hbox hb; have n0_ := a_ (bb_ BK830.out hb); have n1_ := a_ (bb_ BK834.out hb); have n2_ := a_ (below_step bl_ hb); have n3_ := a_ (hbox); have n4_ := a_ ((bz_ (w := w) hg)); have n5_ := a_ ((bz_ (w := w) hg)); have n6_ := a_ ((nl_ BK830.out hg)); have n7_ := a_ ((ng_ BK830.out hg)); have n8_ := a_ ((nl_ BK834.out hg)); have n9_ := a_ ((ng_ BK834.out hg)); clear BK830; clear BK834; clear HB; have BK830 := n0_; have BK834 := n1_; have HB := n2_; have BK838 := n3_; have GW838 := n4_; have GE838 := n5_; have NB830_838 := n6_; have NB838_830 := n7_; have NB834_838 := n8_; have NB838_834 := n9_; clear n0_ n1_ n2_ n3_ n4_ n5_ n6_ n7_ n8_ n9_; clear hb hbox hg; have hnb36 := NB838_830.out; have hnc36 := NB830_838.out; have hnb37 := NB838_834.out; have hnc37 := NB834_838.out; have hcz38_0 : w35.cell? ⟨gb838, 0, none⟩ = some (.int .i64 0) := (blk_cell BK838.out 0).trans rfl; have hcz38_1 : w35.cell? ⟨gb838, 1, none⟩ = some (.int .i64 0) := (blk_cell BK838.out 1).trans rfl; have hfz38_0 := blk_frozen BK838.out 0; have hfz38_1 := blk_frozen BK838.out 1) | ((with_reducible refine gate_callee (f := 44) rfl ?_); refine goesL_ (some 70) rfl rfl Tryd.func44 (by kernel_rfl) rfl #[.slice A0 l0.length c0, .int .i64 (wrap64 (a2 - 1)), .int .i64 a2] rfl tm_ ?_; (with_reducible refine (refill_Between.calls kj5 _ _ l0 (wrap64 (a2 - 1)) a2 t839 t840 t841 _ ?side1 ?side2 A24.out).mono ?_); (case side1 => exact Kd.C_below HR0.out bl_); (case side2 => exact HC0.out); rintro e w39 ⟨rfl, hb⟩; refine ⟨_, rfl, ?_⟩; have n0_ := a_ (blk_below (g := gb830) (o := .cells #[.int .i64 t827, .int .i64 t828] 49 (0, 0)) (by (with_reducible repeat (first | refine blk_drewN ?_ _ | refine blk_drew ?_ | refine blk_alloc ?_ _)); refine blk_far ?_ NB830_838.out _; (with_reducible repeat (first | refine blk_drewN ?_ _ | refine blk_drew ?_ | refine blk_alloc ?_ _)); refine blk_far ?_ NB830_838.out _; (with_reducible repeat (first | refine blk_drewN ?_ _ | refine blk_drew ?_ | refine blk_alloc ?_ _)); exact BK830.out) hb); have n1_ := a_ (blk_below (g := gb834) (o := .cells #[.int .i64 t831, .int .i64 t832] 49 (0, 0)) (by (with_reducible repeat (first | refine blk_drewN ?_ _ | refine blk_drew ?_ | refine blk_alloc ?_ _)); refine blk_far ?_ NB834_838.out _; (with_reducible repeat (first | refine blk_drewN ?_ _ | refine blk_drew ?_ | refine blk_alloc ?_ _)); refine blk_far ?_ NB834_838.out _; (with_reducible repeat (first | refine blk_drewN ?_ _ | refine blk_drew ?_ | refine blk_alloc ?_ _)); exact BK834.out) hb); have n2_ := a_ (blk_below (g := gb838) (o := .cells #[.int .i64 t835, .int .i64 t836] 49 (0, 0)) (by (with_reducible repeat (first | refine blk_drewN ?_ _ | refine blk_drew ?_ | refine blk_alloc ?_ _)); refine blk_put (cs := #[.int .i64 t835, .int .i64 0]) ?_ 1 _ rfl; (with_reducible repeat (first | refine blk_drewN ?_ _ | refine blk_drew ?_ | refine blk_alloc ?_ _)); refine blk_put (cs := #[.int .i64 0, .int .i64 0]) ?_ 0 _ rfl; (with_reducible repeat (first | refine blk_drewN ?_ _ | refine blk_drew ?_ | refine blk_alloc ?_ _)); exact BK838.out) hb); have n3_ := a_ (below_step bl_ hb); clear BK830; clear BK834; clear BK838; clear HB; have BK830 := n0_; have BK834 := n1_; have BK838 := n2_; have HB := n3_; clear n0_ n1_ n2_ n3_; (try clear hb); (try clear hb2); (try clear hk); (try clear hi)) | ((with_reducible refine gate_dst (N := 14) rfl ?_); (try (refine gate_guard (by rfl) ?_; dsimp only)); refine box_event ?hg (N := 14) ?hd (cs := #[.int .i64 0, .int .i64 0]) (t := 49) ?hr ?_; (case hd => rfl); (case hg => rfl); (case hr => first | (go_simp; done) | (go_simp; rfl)); intro gb842 hg w40 hbox hb; have n0_ := a_ (bb_ BK830.out hb); have n1_ := a_ (bb_ BK834.out hb); have n2_ := a_ (bb_ BK838.out hb); have n3_ := a_ (below_step bl_ hb); have n4_ := a_ (hbox); have n5_ := a_ ((bz_ (w := w) hg)); have n6_ := a_ ((bz_ (w := w) hg)); have n7_ := a_ ((nl_ BK830.out hg)); have n8_ := a_ ((ng_ BK830.out hg)); have n9_ := a_ ((nl_ BK834.out hg)); have n10_ := a_ ((ng_ BK834.out hg)); have n11_ := a_ ((nl_ BK838.out hg)); have n12_ := a_ ((ng_ BK838.out hg)); clear BK830; clear BK834; clear BK838; clear HB; have BK830 := n0_; have BK834 := n1_; have BK838 := n2_; have HB := n3_; have BK842 := n4_; have GW842 := n5_; have GE842 := n6_; have NB830_842 := n7_; have NB842_830 := n8_; have NB834_842 := n9_; have NB842_834 := n10_; have NB838_842 := n11_; have NB842_838 := n12_; clear n0_ n1_ n2_ n3_ n4_ n5_ n6_ n7_ n8_ n9_ n10_ n11_ n12_; clear hb hbox hg; have hnb41 := NB842_830.out; have hnc41 := NB830_842.out; have hnb42 := NB842_834.out; have hnc42 := NB834_842.out; have hnb43 := NB842_838.out; have hnc43 := NB838_842.out; have hcz44_0 : w40.cell? ⟨gb842, 0, none⟩ = some (.int .i64 0) := (blk_cell BK842.out 0).trans rfl; have hcz44_1 : w40.cell? ⟨gb842, 1, none⟩ = some (.int .i64 0) := (blk_cell BK842.out 1).trans rfl; have hfz44_0 := blk_frozen BK842.out 0; have hfz44_1 := blk_frozen BK842.out 1))
       (try simp only [Act.put, List.setIfInBounds_toArray, List.set_cons_zero, List.set_cons_succ])
       go_cut [105] (fun v105 wc => ∃ (kq : Nat) (x105_24 : Bool), v105 = .bool x105_24 ∧ Aside0 (waterhourlaw04_RefillPrefix.j1 kq l0 a1 t833 x105_24 t827 t828 t831 t832 t835 t836 t839 t840 = some r) ∧ Aside0 (kq ≤ kj5) ∧ Aside0 (wc.heap[gb830]? = some (.cells #[.int .i64 t827, .int .i64 t828] 49 (0, 0))) ∧ Aside0 (wc.heap[gb834]? = some (.cells #[.int .i64 t831, .int .i64 t832] 49 (0, 0))) ∧ Aside0 (wc.heap[gb838]? = some (.cells #[.int .i64 t835, .int .i64 t836] 49 (0, 0))) ∧ Aside0 (wc.heap[gb842]? = some (.cells #[.int .i64 t839, .int .i64 t840] 49 (0, 0))) ∧ Aside0 (Below w.heap.size w wc))
       case first => as_aux_lemma =>
        have H := HC25.out
        clear HC25
        by_cases c45 : t829 = t837
        ·rw [if_pos c45] at H
         have c45b0 : (t829 == t837) = true := beq_iff_eq.mpr c45
         have c45b1 : (t829 != t837) = false := bne_eq_false_iff_eq.mpr c45
         clear c45
         (first | rw [c45b0] | (simp only [i64_w, i32_w]; rw [c45b0]) | skip)
         by_cases c46 : t833 = t841
         ·rw [if_pos c46] at H
          have c46b0 : (t833 == t841) = true := beq_iff_eq.mpr c46
          have c46b1 : (t833 != t841) = false := bne_eq_false_iff_eq.mpr c46
          clear c46
          by_cases c47 : t829 = 0
          ·rw [if_pos c47] at H
           have c47b0 : (t829 == 0) = true := beq_iff_eq.mpr c47
           have c47b1 : (t829 != 0) = false := bne_eq_false_iff_eq.mpr c47
           clear c47
           by_cases c48 : t833 = 0
           ·rw [if_pos c48] at H
            have c48b0 : (t833 == 0) = true := beq_iff_eq.mpr c48
            have c48b1 : (t833 != 0) = false := bne_eq_false_iff_eq.mpr c48
            clear c48
            by_cases c49 : t829 = 31
            ·rw [if_pos c49] at H
             have c49b0 : (t829 == 31) = true := beq_iff_eq.mpr c49
             have c49b1 : (t829 != 31) = false := bne_eq_false_iff_eq.mpr c49
             clear c49
             have H' := a_ H
             clear H
             go_wp2
             go_meet
             case rel => exact ⟨_, ((t833 != t829)), (by first | rfl | (simp; done) | (simp [*]; done)), H', ⟨by have := HJ5.out; first | omega | exact Nat.le_refl _⟩, ⟨by (with_reducible repeat (first | refine blk_drewN ?_ _ | refine blk_drew ?_ | refine blk_alloc ?_ _)); refine blk_far ?_ NB830_842.out _; (with_reducible repeat (first | refine blk_drewN ?_ _ | refine blk_drew ?_ | refine blk_alloc ?_ _)); refine blk_far ?_ NB830_842.out _; (with_reducible repeat (first | refine blk_drewN ?_ _ | refine blk_drew ?_ | refine blk_alloc ?_ _)); exact BK830.out⟩, ⟨by (with_reducible repeat (first | refine blk_drewN ?_ _ | refine blk_drew ?_ | refine blk_alloc ?_ _)); refine blk_far ?_ NB834_842.out _; (with_reducible repeat (first | refine blk_drewN ?_ _ | refine blk_drew ?_ | refine blk_alloc ?_ _)); refine blk_far ?_ NB834_842.out _; (with_reducible repeat (first | refine blk_drewN ?_ _ | refine blk_drew ?_ | refine blk_alloc ?_ _)); exact BK834.out⟩, ⟨by (with_reducible repeat (first | refine blk_drewN ?_ _ | refine blk_drew ?_ | refine blk_alloc ?_ _)); refine blk_far ?_ NB838_842.out _; (with_reducible repeat (first | refine blk_drewN ?_ _ | refine blk_drew ?_ | refine blk_alloc ?_ _)); refine blk_far ?_ NB838_842.out _; (with_reducible repeat (first | refine blk_drewN ?_ _ | refine blk_drew ?_ | refine blk_alloc ?_ _)); exact BK838.out⟩, ⟨by (with_reducible repeat (first | refine blk_drewN ?_ _ | refine blk_drew ?_ | refine blk_alloc ?_ _)); refine blk_put (cs := #[.int .i64 t839, .int .i64 0]) ?_ 1 _ rfl; (with_reducible repeat (first | refine blk_drewN ?_ _ | refine blk_drew ?_ | refine blk_alloc ?_ _)); refine blk_put (cs := #[.int .i64 0, .int .i64 0]) ?_ 0 _ rfl; (with_reducible repeat (first | refine blk_drewN ?_ _ | refine blk_drew ?_ | refine blk_alloc ?_ _)); exact BK842.out⟩, ⟨bl_⟩⟩
            ·rw [if_neg c49] at H
             have c49b0 : (t829 == 31) = false := beq_eq_false_iff_ne.mpr c49
             have c49b1 : (t829 != 31) = true := bne_iff_ne.mpr c49
             have H' := a_ H
             clear H
             go_wp2
             go_meet
             case rel => exact ⟨_, (false), (by first | rfl | (simp; done) | (simp [*]; done)), H', ⟨by have := HJ5.out; first | omega | exact Nat.le_refl _⟩, ⟨by (with_reducible repeat (first | refine blk_drewN ?_ _ | refine blk_drew ?_ | refine blk_alloc ?_ _)); refine blk_far ?_ NB830_842.out _; (with_reducible repeat (first | refine blk_drewN ?_ _ | refine blk_drew ?_ | refine blk_alloc ?_ _)); refine blk_far ?_ NB830_842.out _; (with_reducible repeat (first | refine blk_drewN ?_ _ | refine blk_drew ?_ | refine blk_alloc ?_ _)); exact BK830.out⟩, ⟨by (with_reducible repeat (first | refine blk_drewN ?_ _ | refine blk_drew ?_ | refine blk_alloc ?_ _)); refine blk_far ?_ NB834_842.out _; (with_reducible repeat (first | refine blk_drewN ?_ _ | refine blk_drew ?_ | refine blk_alloc ?_ _)); refine blk_far ?_ NB834_842.out _; (with_reducible repeat (first | refine blk_drewN ?_ _ | refine blk_drew ?_ | refine blk_alloc ?_ _)); exact BK834.out⟩, ⟨by (with_reducible repeat (first | refine blk_drewN ?_ _ | refine blk_drew ?_ | refine blk_alloc ?_ _)); refine blk_far ?_ NB838_842.out _; (with_reducible repeat (first | refine blk_drewN ?_ _ | refine blk_drew ?_ | refine blk_alloc ?_ _)); refine blk_far ?_ NB838_842.out _; (with_reducible repeat (first | refine blk_drewN ?_ _ | refine blk_drew ?_ | refine blk_alloc ?_ _)); exact BK838.out⟩, ⟨by (with_reducible repeat (first | refine blk_drewN ?_ _ | refine blk_drew ?_ | refine blk_alloc ?_ _)); refine blk_put (cs := #[.int .i64 t839, .int .i64 0]) ?_ 1 _ rfl; (with_reducible repeat (first | refine blk_drewN ?_ _ | refine blk_drew ?_ | refine blk_alloc ?_ _)); refine blk_put (cs := #[.int .i64 0, .int .i64 0]) ?_ 0 _ rfl; (with_reducible repeat (first | refine blk_drewN ?_ _ | refine blk_drew ?_ | refine blk_alloc ?_ _)); exact BK842.out⟩, ⟨bl_⟩⟩
           ·rw [if_neg c48] at H
            have c48b0 : (t833 == 0) = false := beq_eq_false_iff_ne.mpr c48
            have c48b1 : (t833 != 0) = true := bne_iff_ne.mpr c48
            by_cases c50 : t833 = 31
            ·rw [if_pos c50] at H
             have c50b0 : (t833 == 31) = true := beq_iff_eq.mpr c50
             have c50b1 : (t833 != 31) = false := bne_eq_false_iff_eq.mpr c50
             clear c50
             by_cases c51 : t829 = 31
             ·rw [if_pos c51] at H
              have c51b0 : (t829 == 31) = true := beq_iff_eq.mpr c51
              have c51b1 : (t829 != 31) = false := bne_eq_false_iff_eq.mpr c51
              clear c51
              have H' := a_ H
              clear H
              go_wp2
              go_meet
              case rel => exact ⟨_, ((t833 != t829)), (by first | rfl | (simp; done) | (simp [*]; done)), H', ⟨by have := HJ5.out; first | omega | exact Nat.le_refl _⟩, ⟨by (with_reducible repeat (first | refine blk_drewN ?_ _ | refine blk_drew ?_ | refine blk_alloc ?_ _)); refine blk_far ?_ NB830_842.out _; (with_reducible repeat (first | refine blk_drewN ?_ _ | refine blk_drew ?_ | refine blk_alloc ?_ _)); refine blk_far ?_ NB830_842.out _; (with_reducible repeat (first | refine blk_drewN ?_ _ | refine blk_drew ?_ | refine blk_alloc ?_ _)); exact BK830.out⟩, ⟨by (with_reducible repeat (first | refine blk_drewN ?_ _ | refine blk_drew ?_ | refine blk_alloc ?_ _)); refine blk_far ?_ NB834_842.out _; (with_reducible repeat (first | refine blk_drewN ?_ _ | refine blk_drew ?_ | refine blk_alloc ?_ _)); refine blk_far ?_ NB834_842.out _; (with_reducible repeat (first | refine blk_drewN ?_ _ | refine blk_drew ?_ | refine blk_alloc ?_ _)); exact BK834.out⟩, ⟨by (with_reducible repeat (first | refine blk_drewN ?_ _ | refine blk_drew ?_ | refine blk_alloc ?_ _)); refine blk_far ?_ NB838_842.out _; (with_reducible repeat (first | refine blk_drewN ?_ _ | refine blk_drew ?_ | refine blk_alloc ?_ _)); refine blk_far ?_ NB838_842.out _; (with_reducible repeat (first | refine blk_drewN ?_ _ | refine blk_drew ?_ | refine blk_alloc ?_ _)); exact BK838.out⟩, ⟨by (with_reducible repeat (first | refine blk_drewN ?_ _ | refine blk_drew ?_ | refine blk_alloc ?_ _)); refine blk_put (cs := #[.int .i64 t839, .int .i64 0]) ?_ 1 _ rfl; (with_reducible repeat (first | refine blk_drewN ?_ _ | refine blk_drew ?_ | refine blk_alloc ?_ _)); refine blk_put (cs := #[.int .i64 0, .int .i64 0]) ?_ 0 _ rfl; (with_reducible repeat (first | refine blk_drewN ?_ _ | refine blk_drew ?_ | refine blk_alloc ?_ _)); exact BK842.out⟩, ⟨bl_⟩⟩
             ·rw [if_neg c51] at H
              have c51b0 : (t829 == 31) = false := beq_eq_false_iff_ne.mpr c51
              have c51b1 : (t829 != 31) = true := bne_iff_ne.mpr c51
              have H' := a_ H
              clear H
              go_wp2
              go_meet
              case rel => exact ⟨_, (false), (by first | rfl | (simp; done) | (simp [*]; done)), H', ⟨by have := HJ5.out; first | omega | exact Nat.le_refl _⟩, ⟨by (with_reducible repeat (first | refine blk_drewN ?_ _ | refine blk_drew ?_ | refine blk_alloc ?_ _)); refine blk_far ?_ NB830_842.out _; (with_reducible repeat (first | refine blk_drewN ?_ _ | refine blk_drew ?_ | refine blk_alloc ?_ _)); refine blk_far ?_ NB830_842.out _; (with_reducible repeat (first | refine blk_drewN ?_ _ | refine blk_drew ?_ | refine blk_alloc ?_ _)); exact BK830.out⟩, ⟨by (with_reducible repeat (first | refine blk_drewN ?_ _ | refine blk_drew ?_ | refine blk_alloc ?_ _)); refine blk_far ?_ NB834_842.out _; (with_reducible repeat (first | refine blk_drewN ?_ _ | refine blk_drew ?_ | refine blk_alloc ?_ _)); refine blk_far ?_ NB834_842.out _; (with_reducible repeat (first | refine blk_drewN ?_ _ | refine blk_drew ?_ | refine blk_alloc ?_ _)); exact BK834.out⟩, ⟨by (with_reducible repeat (first | refine blk_drewN ?_ _ | refine blk_drew ?_ | refine blk_alloc ?_ _)); refine blk_far ?_ NB838_842.out _; (with_reducible repeat (first | refine blk_drewN ?_ _ | refine blk_drew ?_ | refine blk_alloc ?_ _)); refine blk_far ?_ NB838_842.out _; (with_reducible repeat (first | refine blk_drewN ?_ _ | refine blk_drew ?_ | refine blk_alloc ?_ _)); exact BK838.out⟩, ⟨by (with_reducible repeat (first | refine blk_drewN ?_ _ | refine blk_drew ?_ | refine blk_alloc ?_ _)); refine blk_put (cs := #[.int .i64 t839, .int .i64 0]) ?_ 1 _ rfl; (with_reducible repeat (first | refine blk_drewN ?_ _ | refine blk_drew ?_ | refine blk_alloc ?_ _)); refine blk_put (cs := #[.int .i64 0, .int .i64 0]) ?_ 0 _ rfl; (with_reducible repeat (first | refine blk_drewN ?_ _ | refine blk_drew ?_ | refine blk_alloc ?_ _)); exact BK842.out⟩, ⟨bl_⟩⟩
            ·rw [if_neg c50] at H
             have c50b0 : (t833 == 31) = false := beq_eq_false_iff_ne.mpr c50
             have c50b1 : (t833 != 31) = true := bne_iff_ne.mpr c50
             have H' := a_ H
             clear H
             go_wp2
             go_meet
             case rel => exact ⟨_, (true), (by first | rfl | (simp; done) | (simp [*]; done)), H', ⟨by have := HJ5.out; first | omega | exact Nat.le_refl _⟩, ⟨by (with_reducible repeat (first | refine blk_drewN ?_ _ | refine blk_drew ?_ | refine blk_alloc ?_ _)); refine blk_far ?_ NB830_842.out _; (with_reducible repeat (first | refine blk_drewN ?_ _ | refine blk_drew ?_ | refine blk_alloc ?_ _)); refine blk_far ?_ NB830_842.out _; (with_reducible repeat (first | refine blk_drewN ?_ _ | refine blk_drew ?_ | refine blk_alloc ?_ _)); exact BK830.out⟩, ⟨by (with_reducible repeat (first | refine blk_drewN ?_ _ | refine blk_drew ?_ | refine blk_alloc ?_ _)); refine blk_far ?_ NB834_842.out _; (with_reducible repeat (first | refine blk_drewN ?_ _ | refine blk_drew ?_ | refine blk_alloc ?_ _)); refine blk_far ?_ NB834_842.out _; (with_reducible repeat (first | refine blk_drewN ?_ _ | refine blk_drew ?_ | refine blk_alloc ?_ _)); exact BK834.out⟩, ⟨by (with_reducible repeat (first | refine blk_drewN ?_ _ | refine blk_drew ?_ | refine blk_alloc ?_ _)); refine blk_far ?_ NB838_842.out _; (with_reducible repeat (first | refine blk_drewN ?_ _ | refine blk_drew ?_ | refine blk_alloc ?_ _)); refine blk_far ?_ NB838_842.out _; (with_reducible repeat (first | refine blk_drewN ?_ _ | refine blk_drew ?_ | refine blk_alloc ?_ _)); exact BK838.out⟩, ⟨by (with_reducible repeat (first | refine blk_drewN ?_ _ | refine blk_drew ?_ | refine blk_alloc ?_ _)); refine blk_put (cs := #[.int .i64 t839, .int .i64 0]) ?_ 1 _ rfl; (with_reducible repeat (first | refine blk_drewN ?_ _ | refine blk_drew ?_ | refine blk_alloc ?_ _)); refine blk_put (cs := #[.int .i64 0, .int .i64 0]) ?_ 0 _ rfl; (with_reducible repeat (first | refine blk_drewN ?_ _ | refine blk_drew ?_ | refine blk_alloc ?_ _)); exact BK842.out⟩, ⟨bl_⟩⟩
          ·rw [if_neg c47] at H
           have c47b0 : (t829 == 0) = false := beq_eq_false_iff_ne.mpr c47
           have c47b1 : (t829 != 0) = true := bne_iff_ne.mpr c47
           by_cases c52 : t829 = 31
           ·rw [if_pos c52] at H
            have c52b0 : (t829 == 31) = true := beq_iff_eq.mpr c52
            have c52b1 : (t829 != 31) = false := bne_eq_false_iff_eq.mpr c52
            clear c52
            by_cases c53 : t833 = 0
            ·rw [if_pos c53] at H
             have c53b0 : (t833 == 0) = true := beq_iff_eq.mpr c53
             have c53b1 : (t833 != 0) = false := bne_eq_false_iff_eq.mpr c53
             clear c53
             have H' := a_ H
             clear H
             go_wp2
             go_meet
             case rel => exact ⟨_, ((t833 != t829)), (by first | rfl | (simp; done) | (simp [*]; done)), H', ⟨by have := HJ5.out; first | omega | exact Nat.le_refl _⟩, ⟨by (with_reducible repeat (first | refine blk_drewN ?_ _ | refine blk_drew ?_ | refine blk_alloc ?_ _)); refine blk_far ?_ NB830_842.out _; (with_reducible repeat (first | refine blk_drewN ?_ _ | refine blk_drew ?_ | refine blk_alloc ?_ _)); refine blk_far ?_ NB830_842.out _; (with_reducible repeat (first | refine blk_drewN ?_ _ | refine blk_drew ?_ | refine blk_alloc ?_ _)); exact BK830.out⟩, ⟨by (with_reducible repeat (first | refine blk_drewN ?_ _ | refine blk_drew ?_ | refine blk_alloc ?_ _)); refine blk_far ?_ NB834_842.out _; (with_reducible repeat (first | refine blk_drewN ?_ _ | refine blk_drew ?_ | refine blk_alloc ?_ _)); refine blk_far ?_ NB834_842.out _; (with_reducible repeat (first | refine blk_drewN ?_ _ | refine blk_drew ?_ | refine blk_alloc ?_ _)); exact BK834.out⟩, ⟨by (with_reducible repeat (first | refine blk_drewN ?_ _ | refine blk_drew ?_ | refine blk_alloc ?_ _)); refine blk_far ?_ NB838_842.out _; (with_reducible repeat (first | refine blk_drewN ?_ _ | refine blk_drew ?_ | refine blk_alloc ?_ _)); refine blk_far ?_ NB838_842.out _; (with_reducible repeat (first | refine blk_drewN ?_ _ | refine blk_drew ?_ | refine blk_alloc ?_ _)); exact BK838.out⟩, ⟨by (with_reducible repeat (first | refine blk_drewN ?_ _ | refine blk_drew ?_ | refine blk_alloc ?_ _)); refine blk_put (cs := #[.int .i64 t839, .int .i64 0]) ?_ 1 _ rfl; (with_reducible repeat (first | refine blk_drewN ?_ _ | refine blk_drew ?_ | refine blk_alloc ?_ _)); refine blk_put (cs := #[.int .i64 0, .int .i64 0]) ?_ 0 _ rfl; (with_reducible repeat (first | refine blk_drewN ?_ _ | refine blk_drew ?_ | refine blk_alloc ?_ _)); exact BK842.out⟩, ⟨bl_⟩⟩
            ·rw [if_neg c53] at H
             have c53b0 : (t833 == 0) = false := beq_eq_false_iff_ne.mpr c53
             have c53b1 : (t833 != 0) = true := bne_iff_ne.mpr c53
             by_cases c54 : t833 = 31
             ·rw [if_pos c54] at H
              have c54b0 : (t833 == 31) = true := beq_iff_eq.mpr c54
              have c54b1 : (t833 != 31) = false := bne_eq_false_iff_eq.mpr c54
              clear c54
              have H' := a_ H
              clear H
              go_wp2
              go_meet
              case rel => exact ⟨_, ((t833 != t829)), (by first | rfl | (simp; done) | (simp [*]; done)), H', ⟨by have := HJ5.out; first | omega | exact Nat.le_refl _⟩, ⟨by (with_reducible repeat (first | refine blk_drewN ?_ _ | refine blk_drew ?_ | refine blk_alloc ?_ _)); refine blk_far ?_ NB830_842.out _; (with_reducible repeat (first | refine blk_drewN ?_ _ | refine blk_drew ?_ | refine blk_alloc ?_ _)); refine blk_far ?_ NB830_842.out _; (with_reducible repeat (first | refine blk_drewN ?_ _ | refine blk_drew ?_ | refine blk_alloc ?_ _)); exact BK830.out⟩, ⟨by (with_reducible repeat (first | refine blk_drewN ?_ _ | refine blk_drew ?_ | refine blk_alloc ?_ _)); refine blk_far ?_ NB834_842.out _; (with_reducible repeat (first | refine blk_drewN ?_ _ | refine blk_drew ?_ | refine blk_alloc ?_ _)); refine blk_far ?_ NB834_842.out _; (with_reducible repeat (first | refine blk_drewN ?_ _ | refine blk_drew ?_ | refine blk_alloc ?_ _)); exact BK834.out⟩, ⟨by (with_reducible repeat (first | refine blk_drewN ?_ _ | refine blk_drew ?_ | refine blk_alloc ?_ _)); refine blk_far ?_ NB838_842.out _; (with_reducible repeat (first | refine blk_drewN ?_ _ | refine blk_drew ?_ | refine blk_alloc ?_ _)); refine blk_far ?_ NB838_842.out _; (with_reducible repeat (first | refine blk_drewN ?_ _ | refine blk_drew ?_ | refine blk_alloc ?_ _)); exact BK838.out⟩, ⟨by (with_reducible repeat (first | refine blk_drewN ?_ _ | refine blk_drew ?_ | refine blk_alloc ?_ _)); refine blk_put (cs := #[.int .i64 t839, .int .i64 0]) ?_ 1 _ rfl; (with_reducible repeat (first | refine blk_drewN ?_ _ | refine blk_drew ?_ | refine blk_alloc ?_ _)); refine blk_put (cs := #[.int .i64 0, .int .i64 0]) ?_ 0 _ rfl; (with_reducible repeat (first | refine blk_drewN ?_ _ | refine blk_drew ?_ | refine blk_alloc ?_ _)); exact BK842.out⟩, ⟨bl_⟩⟩
             ·rw [if_neg c54] at H
              have c54b0 : (t833 == 31) = false := beq_eq_false_iff_ne.mpr c54
              have c54b1 : (t833 != 31) = true := bne_iff_ne.mpr c54
              have H' := a_ H
              clear H
              go_wp2
              go_meet
              case rel => exact ⟨_, (true), (by first | rfl | (simp; done) | (simp [*]; done)), H', ⟨by have := HJ5.out; first | omega | exact Nat.le_refl _⟩, ⟨by (with_reducible repeat (first | refine blk_drewN ?_ _ | refine blk_drew ?_ | refine blk_alloc ?_ _)); refine blk_far ?_ NB830_842.out _; (with_reducible repeat (first | refine blk_drewN ?_ _ | refine blk_drew ?_ | refine blk_alloc ?_ _)); refine blk_far ?_ NB830_842.out _; (with_reducible repeat (first | refine blk_drewN ?_ _ | refine blk_drew ?_ | refine blk_alloc ?_ _)); exact BK830.out⟩, ⟨by (with_reducible repeat (first | refine blk_drewN ?_ _ | refine blk_drew ?_ | refine blk_alloc ?_ _)); refine blk_far ?_ NB834_842.out _; (with_reducible repeat (first | refine blk_drewN ?_ _ | refine blk_drew ?_ | refine blk_alloc ?_ _)); refine blk_far ?_ NB834_842.out _; (with_reducible repeat (first | refine blk_drewN ?_ _ | refine blk_drew ?_ | refine blk_alloc ?_ _)); exact BK834.out⟩, ⟨by (with_reducible repeat (first | refine blk_drewN ?_ _ | refine blk_drew ?_ | refine blk_alloc ?_ _)); refine blk_far ?_ NB838_842.out _; (with_reducible repeat (first | refine blk_drewN ?_ _ | refine blk_drew ?_ | refine blk_alloc ?_ _)); refine blk_far ?_ NB838_842.out _; (with_reducible repeat (first | refine blk_drewN ?_ _ | refine blk_drew ?_ | refine blk_alloc ?_ _)); exact BK838.out⟩, ⟨by (with_reducible repeat (first | refine blk_drewN ?_ _ | refine blk_drew ?_ | refine blk_alloc ?_ _)); refine blk_put (cs := #[.int .i64 t839, .int .i64 0]) ?_ 1 _ rfl; (with_reducible repeat (first | refine blk_drewN ?_ _ | refine blk_drew ?_ | refine blk_alloc ?_ _)); refine blk_put (cs := #[.int .i64 0, .int .i64 0]) ?_ 0 _ rfl; (with_reducible repeat (first | refine blk_drewN ?_ _ | refine blk_drew ?_ | refine blk_alloc ?_ _)); exact BK842.out⟩, ⟨bl_⟩⟩
           ·rw [if_neg c52] at H
            have c52b0 : (t829 == 31) = false := beq_eq_false_iff_ne.mpr c52
            have c52b1 : (t829 != 31) = true := bne_iff_ne.mpr c52
            have H' := a_ H
            clear H
            go_wp2
            go_meet
            case rel => exact ⟨_, (true), (by first | rfl | (simp; done) | (simp [*]; done)), H', ⟨by have := HJ5.out; first | omega | exact Nat.le_refl _⟩, ⟨by (with_reducible repeat (first | refine blk_drewN ?_ _ | refine blk_drew ?_ | refine blk_alloc ?_ _)); refine blk_far ?_ NB830_842.out _; (with_reducible repeat (first | refine blk_drewN ?_ _ | refine blk_drew ?_ | refine blk_alloc ?_ _)); refine blk_far ?_ NB830_842.out _; (with_reducible repeat (first | refine blk_drewN ?_ _ | refine blk_drew ?_ | refine blk_alloc ?_ _)); exact BK830.out⟩, ⟨by (with_reducible repeat (first | refine blk_drewN ?_ _ | refine blk_drew ?_ | refine blk_alloc ?_ _)); refine blk_far ?_ NB834_842.out _; (with_reducible repeat (first | refine blk_drewN ?_ _ | refine blk_drew ?_ | refine blk_alloc ?_ _)); refine blk_far ?_ NB834_842.out _; (with_reducible repeat (first | refine blk_drewN ?_ _ | refine blk_drew ?_ | refine blk_alloc ?_ _)); exact BK834.out⟩, ⟨by (with_reducible repeat (first | refine blk_drewN ?_ _ | refine blk_drew ?_ | refine blk_alloc ?_ _)); refine blk_far ?_ NB838_842.out _; (with_reducible repeat (first | refine blk_drewN ?_ _ | refine blk_drew ?_ | refine blk_alloc ?_ _)); refine blk_far ?_ NB838_842.out _; (with_reducible repeat (first | refine blk_drewN ?_ _ | refine blk_drew ?_ | refine blk_alloc ?_ _)); exact BK838.out⟩, ⟨by (with_reducible repeat (first | refine blk_drewN ?_ _ | refine blk_drew ?_ | refine blk_alloc ?_ _)); refine blk_put (cs := #[.int .i64 t839, .int .i64 0]) ?_ 1 _ rfl; (with_reducible repeat (first | refine blk_drewN ?_ _ | refine blk_drew ?_ | refine blk_alloc ?_ _)); refine blk_put (cs := #[.int .i64 0, .int .i64 0]) ?_ 0 _ rfl; (with_reducible repeat (first | refine blk_drewN ?_ _ | refine blk_drew ?_ | refine blk_alloc ?_ _)); exact BK842.out⟩, ⟨bl_⟩⟩
         ·rw [if_neg c46] at H
          have c46b0 : (t833 == t841) = false := beq_eq_false_iff_ne.mpr c46
          have c46b1 : (t833 != t841) = true := bne_iff_ne.mpr c46
          have H' := a_ H
          clear H
          go_wp2
          go_meet
          case rel => exact ⟨_, (true), (by first | rfl | (simp; done) | (simp [*]; done)), H', ⟨by have := HJ5.out; first | omega | exact Nat.le_refl _⟩, ⟨by (with_reducible repeat (first | refine blk_drewN ?_ _ | refine blk_drew ?_ | refine blk_alloc ?_ _)); refine blk_far ?_ NB830_842.out _; (with_reducible repeat (first | refine blk_drewN ?_ _ | refine blk_drew ?_ | refine blk_alloc ?_ _)); refine blk_far ?_ NB830_842.out _; (with_reducible repeat (first | refine blk_drewN ?_ _ | refine blk_drew ?_ | refine blk_alloc ?_ _)); exact BK830.out⟩, ⟨by (with_reducible repeat (first | refine blk_drewN ?_ _ | refine blk_drew ?_ | refine blk_alloc ?_ _)); refine blk_far ?_ NB834_842.out _; (with_reducible repeat (first | refine blk_drewN ?_ _ | refine blk_drew ?_ | refine blk_alloc ?_ _)); refine blk_far ?_ NB834_842.out _; (with_reducible repeat (first | refine blk_drewN ?_ _ | refine blk_drew ?_ | refine blk_alloc ?_ _)); exact BK834.out⟩, ⟨by (with_reducible repeat (first | refine blk_drewN ?_ _ | refine blk_drew ?_ | refine blk_alloc ?_ _)); refine blk_far ?_ NB838_842.out _; (with_reducible repeat (first | refine blk_drewN ?_ _ | refine blk_drew ?_ | refine blk_alloc ?_ _)); refine blk_far ?_ NB838_842.out _; (with_reducible repeat (first | refine blk_drewN ?_ _ | refine blk_drew ?_ | refine blk_alloc ?_ _)); exact BK838.out⟩, ⟨by (with_reducible repeat (first | refine blk_drewN ?_ _ | refine blk_drew ?_ | refine blk_alloc ?_ _)); refine blk_put (cs := #[.int .i64 t839, .int .i64 0]) ?_ 1 _ rfl; (with_reducible repeat (first | refine blk_drewN ?_ _ | refine blk_drew ?_ | refine blk_alloc ?_ _)); refine blk_put (cs := #[.int .i64 0, .int .i64 0]) ?_ 0 _ rfl; (with_reducible repeat (first | refine blk_drewN ?_ _ | refine blk_drew ?_ | refine blk_alloc ?_ _)); exact BK842.out⟩, ⟨bl_⟩⟩
        ·rw [if_neg c45] at H
         have c45b0 : (t829 == t837) = false := beq_eq_false_iff_ne.mpr c45
         have c45b1 : (t829 != t837) = true := bne_iff_ne.mpr c45
         (first | rw [c45b0] | (simp only [i64_w, i32_w]; rw [c45b0]) | skip)
         have H' := a_ H
         clear H
         go_wp2
         go_meet
         case rel => exact ⟨_, (true), (by first | rfl | (simp; done) | (simp [*]; done)), H', ⟨by have := HJ5.out; first | omega | exact Nat.le_refl _⟩, ⟨by (with_reducible repeat (first | refine blk_drewN ?_ _ | refine blk_drew ?_ | refine blk_alloc ?_ _)); refine blk_far ?_ NB830_842.out _; (with_reducible repeat (first | refine blk_drewN ?_ _ | refine blk_drew ?_ | refine blk_alloc ?_ _)); refine blk_far ?_ NB830_842.out _; (with_reducible repeat (first | refine blk_drewN ?_ _ | refine blk_drew ?_ | refine blk_alloc ?_ _)); exact BK830.out⟩, ⟨by (with_reducible repeat (first | refine blk_drewN ?_ _ | refine blk_drew ?_ | refine blk_alloc ?_ _)); refine blk_far ?_ NB834_842.out _; (with_reducible repeat (first | refine blk_drewN ?_ _ | refine blk_drew ?_ | refine blk_alloc ?_ _)); refine blk_far ?_ NB834_842.out _; (with_reducible repeat (first | refine blk_drewN ?_ _ | refine blk_drew ?_ | refine blk_alloc ?_ _)); exact BK834.out⟩, ⟨by (with_reducible repeat (first | refine blk_drewN ?_ _ | refine blk_drew ?_ | refine blk_alloc ?_ _)); refine blk_far ?_ NB838_842.out _; (with_reducible repeat (first | refine blk_drewN ?_ _ | refine blk_drew ?_ | refine blk_alloc ?_ _)); refine blk_far ?_ NB838_842.out _; (with_reducible repeat (first | refine blk_drewN ?_ _ | refine blk_drew ?_ | refine blk_alloc ?_ _)); exact BK838.out⟩, ⟨by (with_reducible repeat (first | refine blk_drewN ?_ _ | refine blk_drew ?_ | refine blk_alloc ?_ _)); refine blk_put (cs := #[.int .i64 t839, .int .i64 0]) ?_ 1 _ rfl; (with_reducible repeat (first | refine blk_drewN ?_ _ | refine blk_drew ?_ | refine blk_alloc ?_ _)); refine blk_put (cs := #[.int .i64 0, .int .i64 0]) ?_ 0 _ rfl; (with_reducible repeat (first | refine blk_drewN ?_ _ | refine blk_drew ?_ | refine blk_alloc ?_ _)); exact BK842.out⟩, ⟨bl_⟩⟩
       case rest =>
        clear HC25
        try clear c1
        try clear c2
        try clear p2
        try clear q2
        try clear c3
        try clear c4
        try clear c5
        try clear p6
        try clear c9
        try clear c10
        try clear c10b0
        try clear c12
        try clear c12b0
        try clear c14
        try clear c14b0
        try clear c15
        try clear c18
        try clear c19
        try clear c19b0
        try clear c19b1
        try clear c20
        try clear c20b0
        try clear c20b1
        try clear q26
        try clear c31
        try clear c32
        try clear c36
        try clear c37
        try clear c41
        try clear c42
        try clear c43
        try clear c44
        try clear c45
        try clear c45b0
        try clear c45b1
        try clear c46
        try clear c46b0
        try clear c46b1
        try clear c47
        try clear c47b0
        try clear c47b1
        try clear c48
        try clear c48b0
        try clear c48b1
        try clear c49
        try clear c49b0
        try clear c49b1
        try clear c50
        try clear c50b0
        try clear c50b1
        try clear c51
        try clear c51b0
        try clear c51b1
        try clear c52
        try clear c52b0
        try clear c52b1
        try clear c53
        try clear c53b0
        try clear c53b1
        try clear c54
        try clear c54b0
        try clear c54b1
        try clear hcz29_0
        try clear hcz29_1
        try clear hcz33_0
        try clear hcz33_1
        try clear hcz38_0
        try clear hcz38_1
        try clear hcz44_0
        try clear hcz44_1
        try clear hfz29_0
        try clear hfz29_1
        try clear hfz33_0
        try clear hfz33_1
        try clear hfz38_0
        try clear hfz38_1
        try clear hfz44_0
        try clear hfz44_1
        try clear p2
        try clear q26
        obtain ⟨kq, x105_24, rfl, HA, HJ24, BK830, BK834, BK838, BK842, HB⟩ := hcut
        cases kq with
        | zero => exact absurd HA.out (by simp [waterhourlaw04_RefillPrefix.j1])
        | succ kj24 =>
         have H := HA.out
         clear HA
         simp only [waterhourlaw04_RefillPrefix.j1] at H
         by_cases c55 : x105_24 = true
         ·subst c55
          have H1 : (some false) = some r := by rw [if_pos rfl] at H; exact H
          clear H
          have H := H1
          clear H1
          exact absurd (H.trans (congrArg some hrt.out)) (by simp)
         ·replace c55 := Bool.eq_false_iff.mpr c55
          subst c55
          have H1 : (if t833 = 0 then (if t827 > t831 then (some false) else (if t828 < t832 then (some false) else (if t835 > t839 then (some false) else (if t836 < t840 then (some false) else (if 0 ≤ a1 then (if a1 ≤ (l0.length : Int) then ((slices_ContainsDay.f (l0.drop (a1 : Int).toNat) 56).bind fun t847 => (if t847 = true then (some true) else (if (t827 == t831 && (t828 == t832)) = true then (some (t835 == t839 && (t836 == t840))) else (some false)))) else (none)) else (none)))))) else (some true)) = some r := by rw [if_neg (show ¬ (false = true) by decide)] at H; exact H
          clear H
          have H := H1
          clear H1
          by_cases c56 : t833 = 0
          ·rw [if_pos c56] at H
           have c56b0 : (t833 == 0) = true := beq_iff_eq.mpr c56
           have c56b1 : (t833 != 0) = false := bne_eq_false_iff_eq.mpr c56
           clear c56
           by_cases c57 : t827 > t831
           ·rw [if_pos c57] at H
            have c57b0 : decide (t831 < t827) = true := decide_eq_true c57
            clear c57
            exact absurd (H.trans (congrArg some hrt.out)) (by simp)
           ·rw [if_neg c57] at H
            have c57b0 : decide (t831 < t827) = false := decide_eq_false c57
            clear c57
            by_cases c58 : t828 < t832
            ·rw [if_pos c58] at H
             have c58b0 : decide (t828 < t832) = true := decide_eq_true c58
             clear c58
             exact absurd (H.trans (congrArg some hrt.out)) (by simp)
            ·rw [if_neg c58] at H
             have c58b0 : decide (t828 < t832) = false := decide_eq_false c58
             clear c58
             by_cases c59 : t835 > t839
             ·rw [if_pos c59] at H
              have c59b0 : decide (t839 < t835) = true := decide_eq_true c59
              clear c59
              exact absurd (H.trans (congrArg some hrt.out)) (by simp)
             ·rw [if_neg c59] at H
              have c59b0 : decide (t839 < t835) = false := decide_eq_false c59
              clear c59
              by_cases c60 : t836 < t840
              ·rw [if_pos c60] at H
               have c60b0 : decide (t836 < t840) = true := decide_eq_true c60
               clear c60
               exact absurd (H.trans (congrArg some hrt.out)) (by simp)
              ·rw [if_neg c60] at H
               have c60b0 : decide (t836 < t840) = false := decide_eq_false c60
               clear c60
               by_cases c61 : 0 ≤ a1
               ·rw [if_pos c61] at H
                have c61b0 := eq_true c61
                have c61b1 : decide (0 ≤ a1) = true := decide_eq_true c61
                clear c61
                by_cases c62 : a1 ≤ (l0.length : Int)
                ·rw [if_pos c62] at H
                 have c62b0 := eq_true c62
                 have c62b1 : decide (a1 ≤ (l0.length : Int)) = true := decide_eq_true c62
                 clear c62
                 obtain ⟨y843, hy843⟩ : ∃ y_ : List (S51), y_ = (l0.drop (a1 : Int).toNat) := ⟨_, rfl⟩
                 replace H : ((slices_ContainsDay.f y843 56).bind fun t847 => (if t847 = true then (some true) else (if (t827 == t831 && (t828 == t832)) = true then (some (t835 == t839 && (t836 == t840))) else (some false)))) = some r := by first | (rw [hy843]; with_reducible exact H) | (have H2_ := (Option.bind_some _ _).symm.trans H; rw [hy843]; with_reducible exact H2_) | (have H2_ := (Option.bind_some _ _).symm.trans H; with_reducible exact H2_) | with_reducible exact H | (rw [hy843]; exact H) | exact H
                 have Ny843 := a_ hy843
                 clear hy843
                 replace H := Option.bind_eq_some_iff.mp H
                 obtain ⟨t847, A630, H⟩ := H
                 replace H : (if t847 = true then (some true) else (if (t827 == t831 && (t828 == t832)) = true then (some (t835 == t839 && (t836 == t840))) else (some false))) = some r := H
                 have A63 := a_ A630
                 clear A630
                 by_cases c64 : t847 = true
                 ·subst c64
                  have H1 : (some true) = some r := by rw [if_pos rfl] at H; exact H
                  clear H
                  have H := H1
                  clear H1
                  obtain rfl := Option.some.inj H
                  have hnb65 := NB830_834.out
                  have hnc65 := NB834_830.out
                  have hnb66 := NB830_838.out
                  have hnc66 := NB838_830.out
                  have hnb67 := NB830_842.out
                  have hnc67 := NB842_830.out
                  have hcz68_0 : wc.cell? ⟨gb830, 0, none⟩ = some (.int .i64 t827) := (blk_cell BK830.out 0).trans rfl
                  have hcz68_1 : wc.cell? ⟨gb830, 1, none⟩ = some (.int .i64 t828) := (blk_cell BK830.out 1).trans rfl
                  have hfz68_0 := blk_frozen BK830.out 0
                  have hfz68_1 := blk_frozen BK830.out 1
                  have hnb69 := NB834_838.out
                  have hnc69 := NB838_834.out
                  have hnb70 := NB834_842.out
                  have hnc70 := NB842_834.out
                  have hcz71_0 : wc.cell? ⟨gb834, 0, none⟩ = some (.int .i64 t831) := (blk_cell BK834.out 0).trans rfl
                  have hcz71_1 : wc.cell? ⟨gb834, 1, none⟩ = some (.int .i64 t832) := (blk_cell BK834.out 1).trans rfl
                  have hfz71_0 := blk_frozen BK834.out 0
                  have hfz71_1 := blk_frozen BK834.out 1
                  have hnb72 := NB838_842.out
                  have hnc72 := NB842_838.out
                  have hcz73_0 : wc.cell? ⟨gb838, 0, none⟩ = some (.int .i64 t835) := (blk_cell BK838.out 0).trans rfl
                  have hcz73_1 : wc.cell? ⟨gb838, 1, none⟩ = some (.int .i64 t836) := (blk_cell BK838.out 1).trans rfl
                  have hfz73_0 := blk_frozen BK838.out 0
                  have hfz73_1 := blk_frozen BK838.out 1
                  have hcz74_0 : wc.cell? ⟨gb842, 0, none⟩ = some (.int .i64 t839) := (blk_cell BK842.out 0).trans rfl
                  have hcz74_1 : wc.cell? ⟨gb842, 1, none⟩ = some (.int .i64 t840) := (blk_cell BK842.out 1).trans rfl
                  have hfz74_0 := blk_frozen BK842.out 0
                  have hfz74_1 := blk_frozen BK842.out 1
                  have q75 : (a1 : Int) ≤ ((l0.length : Int) : Int) := of_decide_eq_true (by first | (with_reducible assumption) | assumption)
                  obtain ⟨i075, hi075, _, hsz75, _⟩ := info_parts info51
                  have hroom75 : l0.length ≤ c0 := HC0.out
                  have hC75 : Kd.C k51 _ A0 l0.length l0 := HR0.out
                  have q075 : (0 : Int) ≤ (a1 : Int) := of_decide_eq_true (by first | (with_reducible assumption) | assumption)
                  have hcut75 := cut_from (P := Tryd.prog) 23 51 .i64 Tryd.underlying23 hi075 4 hsz75 A0 l0.length c0 a1 q075 q75
                  have hr75 := Kd.C_drop (m := (a1 : Int).toNat) (c := c0) hC75 (by omega) hroom75
                  obtain ⟨A75, hA75⟩ : ∃ A1, A1 = (if c0 = (a1 : Int).toNat then A0 else (A0 : Option Addr).map (·.add ((a1 : Int).toNat * 4))) := ⟨_, rfl⟩
                  obtain ⟨c75, hc75⟩ : ∃ c1, c1 = c0 - (a1 : Int).toNat := ⟨_, rfl⟩
                  have hy75 : y843.length = l0.length - (a1 : Int).toNat := (by rw [Ny843.out, List.length_drop] <;> omega)
                  rw [show (l0).drop (a1 : Int).toNat = y843 from Ny843.out.symm] at hr75
                  replace hr75 : Kd.C k51 _ A75 y843.length y843 := (by rw [hA75]; exact hr75)
                  rw [← hy75, ← hA75, ← hc75] at hcut75
                  have HR846 := a_ hr75
                  have HC846 := a_ (show y843.length ≤ c75 from by rw [hy75, hc75]; exact Nat.sub_le_sub_right hroom75 _)
                  clear hr75 hC75 hroom75 hi075 hsz75 hc75
                  have KY75 := a_ hy75
                  have KA75 := a_ hA75
                  clear hy75 hA75
                  replace q75 := eq_true q75
                  go_wp2_with (first | ((with_reducible refine gate_callee (f := 55) rfl ?_); refine goesL_ (some 137) rfl rfl Tryd.func55 (by kernel_rfl) rfl #[.slice A75 y843.length c75, .func (.func 56) #[] #[]] rfl tm_ ?_; (with_reducible refine (slices_ContainsDay.calls _ _ y843 56 true _ ?side1 ?side2 A63.out).mono ?_); (case side1 => exact cl_ (Kd.C_below HR846.out HB.out)); (case side2 => exact HC846.out); rintro e w76 ⟨rfl, hb⟩; refine ⟨_, rfl, ?_⟩; have n0_ := a_ (bb_ BK830.out hb); have n1_ := a_ (bb_ BK834.out hb); have n2_ := a_ (bb_ BK838.out hb); have n3_ := a_ (bb_ BK842.out hb); have n4_ := a_ (below_step bl_ hb); clear BK830; clear BK834; clear BK838; clear BK842; clear HB; have BK830 := n0_; have BK834 := n1_; have BK838 := n2_; have BK842 := n3_; have HB := n4_; clear n0_ n1_ n2_ n3_ n4_; (try clear hb); (try clear hb2); (try clear hk); (try clear hi)))
                  go_ret
                  exact ⟨by first | rfl | (simp [errW_none, errW_some] <;> rfl) | (simp [*, errW_none, errW_some] <;> rfl), bl_⟩
                 ·replace c64 := Bool.eq_false_iff.mpr c64
                  subst c64
                  have H1 : (if (t827 == t831 && (t828 == t832)) = true then (some (t835 == t839 && (t836 == t840))) else (some false)) = some r := by rw [if_neg (show ¬ (false = true) by decide)] at H; exact H
                  clear H
                  have H := H1
                  clear H1
                  by_cases c77 : (t827 == t831 && (t828 == t832)) = true
                  ·rw [if_pos c77] at H
                   have c77b0 : (t827 == t831 && (t828 == t832)) = true := c77
                   (try (have c77b1 : decide (t827 = t831 && (t828 == t832)) = true := by simpa using c77))
                   (try (have c77b2 : (t827 == t831 && (t828 == t832)) = true := by simpa using c77))
                   clear c77
                   obtain rfl := Option.some.inj H
                   have hnb78 := NB830_834.out
                   have hnc78 := NB834_830.out
                   have hnb79 := NB830_838.out
                   have hnc79 := NB838_830.out
                   have hnb80 := NB830_842.out
                   have hnc80 := NB842_830.out
                   have hcz81_0 : wc.cell? ⟨gb830, 0, none⟩ = some (.int .i64 t827) := (blk_cell BK830.out 0).trans rfl
                   have hcz81_1 : wc.cell? ⟨gb830, 1, none⟩ = some (.int .i64 t828) := (blk_cell BK830.out 1).trans rfl
                   have hfz81_0 := blk_frozen BK830.out 0
                   have hfz81_1 := blk_frozen BK830.out 1
                   have hnb82 := NB834_838.out
                   have hnc82 := NB838_834.out
                   have hnb83 := NB834_842.out
                   have hnc83 := NB842_834.out
                   have hcz84_0 : wc.cell? ⟨gb834, 0, none⟩ = some (.int .i64 t831) := (blk_cell BK834.out 0).trans rfl
                   have hcz84_1 : wc.cell? ⟨gb834, 1, none⟩ = some (.int .i64 t832) := (blk_cell BK834.out 1).trans rfl
                   have hfz84_0 := blk_frozen BK834.out 0
                   have hfz84_1 := blk_frozen BK834.out 1
                   have hnb85 := NB838_842.out
                   have hnc85 := NB842_838.out
                   have hcz86_0 : wc.cell? ⟨gb838, 0, none⟩ = some (.int .i64 t835) := (blk_cell BK838.out 0).trans rfl
                   have hcz86_1 : wc.cell? ⟨gb838, 1, none⟩ = some (.int .i64 t836) := (blk_cell BK838.out 1).trans rfl
                   have hfz86_0 := blk_frozen BK838.out 0
                   have hfz86_1 := blk_frozen BK838.out 1
                   have hcz87_0 : wc.cell? ⟨gb842, 0, none⟩ = some (.int .i64 t839) := (blk_cell BK842.out 0).trans rfl
                   have hcz87_1 : wc.cell? ⟨gb842, 1, none⟩ = some (.int .i64 t840) := (blk_cell BK842.out 1).trans rfl
                   have hfz87_0 := blk_frozen BK842.out 0
                   have hfz87_1 := blk_frozen BK842.out 1
                   have q88 : (a1 : Int) ≤ ((l0.length : Int) : Int) := of_decide_eq_true (by first | (with_reducible assumption) | assumption)
                   obtain ⟨i088, hi088, _, hsz88, _⟩ := info_parts info51
                   have hroom88 : l0.length ≤ c0 := HC0.out
                   have hC88 : Kd.C k51 _ A0 l0.length l0 := HR0.out
                   have q088 : (0 : Int) ≤ (a1 : Int) := of_decide_eq_true (by first | (with_reducible assumption) | assumption)
                   have hcut88 := cut_from (P := Tryd.prog) 23 51 .i64 Tryd.underlying23 hi088 4 hsz88 A0 l0.length c0 a1 q088 q88
                   have hr88 := Kd.C_drop (m := (a1 : Int).toNat) (c := c0) hC88 (by omega) hroom88
                   obtain ⟨A88, hA88⟩ : ∃ A1, A1 = (if c0 = (a1 : Int).toNat then A0 else (A0 : Option Addr).map (·.add ((a1 : Int).toNat * 4))) := ⟨_, rfl⟩
                   obtain ⟨c88, hc88⟩ : ∃ c1, c1 = c0 - (a1 : Int).toNat := ⟨_, rfl⟩
                   have hy88 : y843.length = l0.length - (a1 : Int).toNat := (by rw [Ny843.out, List.length_drop] <;> omega)
                   rw [show (l0).drop (a1 : Int).toNat = y843 from Ny843.out.symm] at hr88
                   replace hr88 : Kd.C k51 _ A88 y843.length y843 := (by rw [hA88]; exact hr88)
                   rw [← hy88, ← hA88, ← hc88] at hcut88
                   have HR846 := a_ hr88
                   have HC846 := a_ (show y843.length ≤ c88 from by rw [hy88, hc88]; exact Nat.sub_le_sub_right hroom88 _)
                   clear hr88 hC88 hroom88 hi088 hsz88 hc88
                   have KY88 := a_ hy88
                   have KA88 := a_ hA88
                   clear hy88 hA88
                   replace q88 := eq_true q88
                   go_wp2_with (first | ((with_reducible refine gate_callee (f := 55) rfl ?_); refine goesL_ (some 137) rfl rfl Tryd.func55 (by kernel_rfl) rfl #[.slice A88 y843.length c88, .func (.func 56) #[] #[]] rfl tm_ ?_; (with_reducible refine (slices_ContainsDay.calls _ _ y843 56 false _ ?side1 ?side2 A63.out).mono ?_); (case side1 => exact cl_ (Kd.C_below HR846.out HB.out)); (case side2 => exact HC846.out); rintro e w89 ⟨rfl, hb⟩; refine ⟨_, rfl, ?_⟩; have n0_ := a_ (bb_ BK830.out hb); have n1_ := a_ (bb_ BK834.out hb); have n2_ := a_ (bb_ BK838.out hb); have n3_ := a_ (bb_ BK842.out hb); have n4_ := a_ (below_step bl_ hb); clear BK830; clear BK834; clear BK838; clear BK842; clear HB; have BK830 := n0_; have BK834 := n1_; have BK838 := n2_; have BK842 := n3_; have HB := n4_; clear n0_ n1_ n2_ n3_ n4_; (try clear hb); (try clear hb2); (try clear hk); (try clear hi); have hcz90_0 : w89.cell? ⟨gb830, 0, none⟩ = some (.int .i64 t827) := (blk_cell BK830.out 0).trans rfl; have hcz90_1 : w89.cell? ⟨gb830, 1, none⟩ = some (.int .i64 t828) := (blk_cell BK830.out 1).trans rfl; have hfz90_0 := blk_frozen BK830.out 0; have hfz90_1 := blk_frozen BK830.out 1; have hcz91_0 : w89.cell? ⟨gb834, 0, none⟩ = some (.int .i64 t831) := (blk_cell BK834.out 0).trans rfl; have hcz91_1 : w89.cell? ⟨gb834, 1, none⟩ = some (.int .i64 t832) := (blk_cell BK834.out 1).trans rfl; have hfz91_0 := blk_frozen BK834.out 0; have hfz91_1 := blk_frozen BK834.out 1; have hcz92_0 : w89.cell? ⟨gb838, 0, none⟩ = some (.int .i64 t835) := (blk_cell BK838.out 0).trans rfl; have hcz92_1 : w89.cell? ⟨gb838, 1, none⟩ = some (.int .i64 t836) := (blk_cell BK838.out 1).trans rfl; have hfz92_0 := blk_frozen BK838.out 0; have hfz92_1 := blk_frozen BK838.out 1; have hcz93_0 : w89.cell? ⟨gb842, 0, none⟩ = some (.int .i64 t839) := (blk_cell BK842.out 0).trans rfl; have hcz93_1 : w89.cell? ⟨gb842, 1, none⟩ = some (.int .i64 t840) := (blk_cell BK842.out 1).trans rfl; have hfz93_0 := blk_frozen BK842.out 0; have hfz93_1 := blk_frozen BK842.out 1))
                   go_ret
                   exact ⟨by first | rfl | (simp [errW_none, errW_some] <;> rfl) | (simp [*, errW_none, errW_some] <;> rfl), bl_⟩
                  ·rw [if_neg c77] at H
                   have c77b0 : (t827 == t831 && (t828 == t832)) = false := by simpa using c77
                   (try (have c77b1 : decide (t827 = t831 && (t828 == t832)) = false := by simpa using c77))
                   (try (have c77b2 : (t827 == t831 && (t828 == t832)) = false := by simpa using c77))
                   (try (have c77b3 : ¬ (t827 = t831 && (t828 == t832)) := by simpa using c77))
                   clear c77
                   exact absurd (H.trans (congrArg some hrt.out)) (by simp)
                ·rw [if_neg c62] at H
                 exact absurd H (by simp)
               ·rw [if_neg c61] at H
                exact absurd H (by simp)
          ·rw [if_neg c56] at H
           have c56b0 : (t833 == 0) = false := beq_eq_false_iff_ne.mpr c56
           have c56b1 : (t833 != 0) = true := bne_iff_ne.mpr c56
           obtain rfl := Option.some.inj H
           go_wp2
           go_ret
           exact ⟨by first | rfl | (simp [errW_none, errW_some] <;> rfl) | (simp [*, errW_none, errW_some] <;> rfl), bl_⟩
      ·rw [if_neg c20] at H
       exact absurd H (by simp)
     ·rw [if_neg c19] at H
      exact absurd H (by simp)
 ·replace c5 := Bool.eq_false_iff.mpr c5
  subst c5
  have H1 : (some false) = some r := by rw [if_neg (show ¬ (false = true) by decide)] at H; exact H
  clear H
  have H := H1
  clear H1
  exact absurd (H.trans (congrArg some hrt.out)) (by simp)

end Go.Proofs.YtgiihjcpgjpkcaaDoor.Q
