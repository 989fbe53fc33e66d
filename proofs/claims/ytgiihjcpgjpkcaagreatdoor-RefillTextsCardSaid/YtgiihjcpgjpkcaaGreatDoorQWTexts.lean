/- Contracts of functions of the given program: each Go function as a plain Lean function (name.f) and the proof that its call answers just so, for every reading of its arguments. Written by the session's program wip/xprint.py out of the translation. -/
import Derived.Test.YtgiihjcpgjpkcaaGreatDoorQ0
import Derived.Test.YtgiihjcpgjpkcaaGreatDoorQI
import Derived.Test.YtgiihjcpgjpkcaaGreatDoorQM
import Derived.Test.YtgiihjcpgjpkcaaGreatDoorQN
import Derived.Test.YtgiihjcpgjpkcaaGreatDoorQTA
import Derived.Test.YtgiihjcpgjpkcaaGreatDoorQTC
import Derived.Test.YtgiihjcpgjpkcaaGreatDoorQTD
import Derived.Test.YtgiihjcpgjpkcaaGreatDoorHSane
namespace Go.Proofs.YtgiihjcpgjpkcaaGreatDoor.Q
open Go.RowKit Go.Proofs.YtgiihjcpgjpkcaaGreatDoorW.PrintWords Go.Proofs.YtgiihjcpgjpkcaaGreatDoorW.PrintLast Go.Proofs.YtgiihjcpgjpkcaaGreatDoorW.PrintMore
attribute [local go_sem] max2_int min2_int max_two min_two max_three min_three max_four min_four   -- for this text's walks alone
set_option linter.unusedVariables false
set_option linter.unusedSimpArgs false

/-! ### waterhourlaw04_RefillTexts: function 3 -/
mutual
def waterhourlaw04_RefillTexts.j0 : Nat → List (S37) → ByteArray → Bool → Option (Bool)
 | 0, _, _, _ => none
 | k + 1, x0, x1, x26 => if x26 = true then (some true) else ((refill_Print.f k x0).bind fun bt361 => ((waterhourref04_Print.f k x0).bind fun bt363 => ((refill_Parse.f k x1).bind fun bt365 => ((waterhourref04_Parse.f k x1).bind fun bt369 => (if bt361.1.toList = bt363.1.toList then (if bt361.2 = bt363.2 then ((waterhourref04_Same.f k bt365.1 bt369.1).bind fun t373 => (if t373 = true then (waterhourlaw04_RefillTexts.j1 k x0 x1 bt361.1 bt361.2 bt365.1 bt365.2 (bt365.2 != bt369.2)) else (waterhourlaw04_RefillTexts.j1 k x0 x1 bt361.1 bt361.2 bt365.1 bt365.2 true))) else (waterhourlaw04_RefillTexts.j1 k x0 x1 bt361.1 bt361.2 bt365.1 bt365.2 true)) else (waterhourlaw04_RefillTexts.j1 k x0 x1 bt361.1 bt361.2 bt365.1 bt365.2 true))))))
def waterhourlaw04_RefillTexts.j1 : Nat → List (S37) → ByteArray → ByteArray → Int → List (S37) → Int → Bool → Option (Bool)
 | 0, _, _, _, _, _, _, _ => none
 | k + 1, x0, x1, x5, x6, x9, x10, x65 => if x65 = true then (some false) else (if x6 = 0 then ((refill_Parse.f k x5).bind fun bt374 => (if bt374.2 = 0 then ((waterhourref04_Same.f k bt374.1 x0).bind fun t378 => (if t378 = true then (waterhourlaw04_RefillTexts.j2 k x1 x9 x10) else (some false))) else (some false))) else (waterhourlaw04_RefillTexts.j2 k x1 x9 x10))
def waterhourlaw04_RefillTexts.j2 : Nat → ByteArray → List (S37) → Int → Option (Bool)
 | 0, _, _, _ => none
 | k + 1, x1, x9, x10 => if x10 = 0 then ((refill_Print.f k x9).bind fun bt379 => (if bt379.2 = 0 then (if bt379.1.toList = x1.toList then (some true) else (some false)) else (some false))) else (some true)
end
def waterhourlaw04_RefillTexts.f (k : Nat) (l0 : List (S37)) (a1 : ByteArray) : Option (Bool) := (law_sane.f).bind fun t359 => (if t359 = true then ((waterhourlaw04_few.f k l0 ([] : List (List Int))).bind fun t360 => (if t360 = true then (waterhourlaw04_RefillTexts.j0 k l0 a1 (decide ((a1.size : Int) > 5000))) else (waterhourlaw04_RefillTexts.j0 k l0 a1 true))) else (some false))
theorem waterhourlaw04_RefillTexts.mono_l : ∀ k, (∀ y0 y1 y2, LeO (waterhourlaw04_RefillTexts.j0 k y0 y1 y2) (waterhourlaw04_RefillTexts.j0 (k + 1) y0 y1 y2)) ∧ (∀ y0 y1 y2 y3 y4 y5 y6, LeO (waterhourlaw04_RefillTexts.j1 k y0 y1 y2 y3 y4 y5 y6) (waterhourlaw04_RefillTexts.j1 (k + 1) y0 y1 y2 y3 y4 y5 y6)) ∧ (∀ y0 y1 y2, LeO (waterhourlaw04_RefillTexts.j2 k y0 y1 y2) (waterhourlaw04_RefillTexts.j2 (k + 1) y0 y1 y2))
 | 0 => ⟨fun _ _ _ r h => by simp [waterhourlaw04_RefillTexts.j0] at h, fun _ _ _ _ _ _ _ r h => by simp [waterhourlaw04_RefillTexts.j1] at h, fun _ _ _ r h => by simp [waterhourlaw04_RefillTexts.j2] at h⟩
 | k + 1 => by
  obtain ⟨ih0, ih1, ih2⟩ := waterhourlaw04_RefillTexts.mono_l k
  refine ⟨?_, ?_, ?_⟩
  ·intro y0 y1 y2
   unfold waterhourlaw04_RefillTexts.j0
   repeat' first
   | (with_reducible exact ih0 _ _ _)
   | (with_reducible exact ih1 _ _ _ _ _ _ _)
   | (with_reducible exact ih2 _ _ _)
   | (with_reducible exact refill_Parse.mono _ _)
   | (with_reducible exact refill_Print.mono _ _)
   | (with_reducible exact waterhourlaw04_few.mono _ _ _)
   | (with_reducible exact waterhourref04_Parse.mono _ _)
   | (with_reducible exact waterhourref04_Print.mono _ _)
   | (with_reducible exact waterhourref04_Same.mono _ _ _)
   | (with_reducible exact LeO.refl _)
   | (with_reducible exact LeO.none _)
   | (with_reducible refine LeO.ite ?_ ?_)
   | (with_reducible refine LeO.bind ?_ (fun _ => ?_))
   | exact ih0 _ _ _
   | exact ih1 _ _ _ _ _ _ _
   | exact ih2 _ _ _
   | exact refill_Parse.mono _ _
   | exact refill_Print.mono _ _
   | exact waterhourlaw04_few.mono _ _ _
   | exact waterhourref04_Parse.mono _ _
   | exact waterhourref04_Print.mono _ _
   | exact waterhourref04_Same.mono _ _ _
   | exact LeO.none _
   | refine LeO.ite ?_ ?_
   | refine LeO.bind ?_ (fun _ => ?_)
  ·intro y0 y1 y2 y3 y4 y5 y6
   unfold waterhourlaw04_RefillTexts.j1
   repeat' first
   | (with_reducible exact ih0 _ _ _)
   | (with_reducible exact ih1 _ _ _ _ _ _ _)
   | (with_reducible exact ih2 _ _ _)
   | (with_reducible exact refill_Parse.mono _ _)
   | (with_reducible exact refill_Print.mono _ _)
   | (with_reducible exact waterhourlaw04_few.mono _ _ _)
   | (with_reducible exact waterhourref04_Parse.mono _ _)
   | (with_reducible exact waterhourref04_Print.mono _ _)
   | (with_reducible exact waterhourref04_Same.mono _ _ _)
   | (with_reducible exact LeO.refl _)
   | (with_reducible exact LeO.none _)
   | (with_reducible refine LeO.ite ?_ ?_)
   | (with_reducible refine LeO.bind ?_ (fun _ => ?_))
   | exact ih0 _ _ _
   | exact ih1 _ _ _ _ _ _ _
   | exact ih2 _ _ _
   | exact refill_Parse.mono _ _
   | exact refill_Print.mono _ _
   | exact waterhourlaw04_few.mono _ _ _
   | exact waterhourref04_Parse.mono _ _
   | exact waterhourref04_Print.mono _ _
   | exact waterhourref04_Same.mono _ _ _
   | exact LeO.none _
   | refine LeO.ite ?_ ?_
   | refine LeO.bind ?_ (fun _ => ?_)
  ·intro y0 y1 y2
   unfold waterhourlaw04_RefillTexts.j2
   repeat' first
   | (with_reducible exact ih0 _ _ _)
   | (with_reducible exact ih1 _ _ _ _ _ _ _)
   | (with_reducible exact ih2 _ _ _)
   | (with_reducible exact refill_Parse.mono _ _)
   | (with_reducible exact refill_Print.mono _ _)
   | (with_reducible exact waterhourlaw04_few.mono _ _ _)
   | (with_reducible exact waterhourref04_Parse.mono _ _)
   | (with_reducible exact waterhourref04_Print.mono _ _)
   | (with_reducible exact waterhourref04_Same.mono _ _ _)
   | (with_reducible exact LeO.refl _)
   | (with_reducible exact LeO.none _)
   | (with_reducible refine LeO.ite ?_ ?_)
   | (with_reducible refine LeO.bind ?_ (fun _ => ?_))
   | exact ih0 _ _ _
   | exact ih1 _ _ _ _ _ _ _
   | exact ih2 _ _ _
   | exact refill_Parse.mono _ _
   | exact refill_Print.mono _ _
   | exact waterhourlaw04_few.mono _ _ _
   | exact waterhourref04_Parse.mono _ _
   | exact waterhourref04_Print.mono _ _
   | exact waterhourref04_Same.mono _ _ _
   | exact LeO.none _
   | refine LeO.ite ?_ ?_
   | refine LeO.bind ?_ (fun _ => ?_)
theorem waterhourlaw04_RefillTexts.mono : ∀ a0 a1 k, LeO (waterhourlaw04_RefillTexts.f k a0 a1) (waterhourlaw04_RefillTexts.f (k + 1) a0 a1) := by
 intro a0 a1 k
 obtain ⟨ih0, ih1, ih2⟩ := waterhourlaw04_RefillTexts.mono_l k
 unfold waterhourlaw04_RefillTexts.f
 repeat' first
   | (with_reducible exact ih0 _ _ _)
   | (with_reducible exact ih1 _ _ _ _ _ _ _)
   | (with_reducible exact ih2 _ _ _)
   | (with_reducible exact refill_Parse.mono _ _)
   | (with_reducible exact refill_Print.mono _ _)
   | (with_reducible exact waterhourlaw04_few.mono _ _ _)
   | (with_reducible exact waterhourref04_Parse.mono _ _)
   | (with_reducible exact waterhourref04_Print.mono _ _)
   | (with_reducible exact waterhourref04_Same.mono _ _ _)
   | (with_reducible exact LeO.refl _)
   | (with_reducible exact LeO.none _)
   | (with_reducible refine LeO.ite ?_ ?_)
   | (with_reducible refine LeO.bind ?_ (fun _ => ?_))
   | exact ih0 _ _ _
   | exact ih1 _ _ _ _ _ _ _
   | exact ih2 _ _ _
   | exact refill_Parse.mono _ _
   | exact refill_Print.mono _ _
   | exact waterhourlaw04_few.mono _ _ _
   | exact waterhourref04_Parse.mono _ _
   | exact waterhourref04_Print.mono _ _
   | exact waterhourref04_Same.mono _ _ _
   | exact LeO.none _
   | refine LeO.ite ?_ ?_
   | refine LeO.bind ?_ (fun _ => ?_)
set_option maxHeartbeats 8000000 in
set_option maxRecDepth 100000 in
theorem waterhourlaw04_RefillTexts.calls (k : Nat) (A0 : Option Addr) (c0 : Nat) (l0 : List (S37)) (a1 : ByteArray) (r : Bool) (w : World) (hr0 : Kd.C k37 w A0 l0.length l0) (hc0 : l0.length ≤ c0) (ht : TabB w) (hrt : Aside0 (r = true)) (h : waterhourlaw04_RefillTexts.f k l0 a1 = some r) :
  Calls Tryz.prog 3 #[.slice A0 l0.length c0, .string a1] w fun e w' => e = .returned (.bool r) ∧ Below w.heap.size w w' := by
 have HR0 := a_ hr0
 have HC0 := a_ hc0
 clear hr0 hc0
 have HT := a_ ht
 clear ht
 have HB := a_ (Below.refl w.heap.size w)
 have H : ((law_sane.f).bind fun t359 => (if t359 = true then ((waterhourlaw04_few.f k l0 ([] : List (List Int))).bind fun t360 => (if t360 = true then (waterhourlaw04_RefillTexts.j0 k l0 a1 (decide ((a1.size : Int) > 5000))) else (waterhourlaw04_RefillTexts.j0 k l0 a1 true))) else (some false))) = some r := h
 clear h
 replace H := Option.bind_eq_some_iff.mp H
 obtain ⟨t359, A30, H⟩ := H
 replace H : (if t359 = true then ((waterhourlaw04_few.f k l0 ([] : List (List Int))).bind fun t360 => (if t360 = true then (waterhourlaw04_RefillTexts.j0 k l0 a1 (decide ((a1.size : Int) > 5000))) else (waterhourlaw04_RefillTexts.j0 k l0 a1 true))) else (some false)) = some r := H
 have A3 := a_ A30
 clear A30
 by_cases c4 : t359 = true
 ·subst c4
  have H1 : ((waterhourlaw04_few.f k l0 ([] : List (List Int))).bind fun t360 => (if t360 = true then (waterhourlaw04_RefillTexts.j0 k l0 a1 (decide ((a1.size : Int) > 5000))) else (waterhourlaw04_RefillTexts.j0 k l0 a1 true))) = some r := by rw [if_pos rfl] at H; exact H
  clear H
  have H := H1
  clear H1
  have HC5 := a_ H
  clear H
  go_enter Tryz.func3, Tryz.ntmps3
  go_upto_region 3 with (first | ((with_reducible refine gate_callee (f := 4) rfl ?_); refine goesL_ (some 17) rfl rfl Tryz.func4 (by kernel_rfl) rfl #[] rfl tm_ ?_; (with_reducible refine (law_sane.calls  true _ ?side1 A3.out).mono ?_); (case side1 => exact TabB.below HT.out bl_); rintro e w6 ⟨rfl, hb⟩; refine ⟨_, rfl, ?_⟩; have n0_ := a_ (below_step bl_ hb); clear HB; have HB := n0_; clear n0_; (try clear hb); (try clear hb2); (try clear hk); (try clear hi)))
  (try simp only [Act.put, List.setIfInBounds_toArray, List.set_cons_zero, List.set_cons_succ])
  go_cut [26] (fun v26 wc => ∃ (kq : Nat) (x26_4 : Bool), v26 = .bool x26_4 ∧ Aside0 (waterhourlaw04_RefillTexts.j0 kq l0 a1 x26_4 = some r) ∧ Aside0 (kq ≤ k) ∧ Aside0 (Below w.heap.size w wc))
  case first =>
   have H := HC5.out
   clear HC5
   replace H := Option.bind_eq_some_iff.mp H
   obtain ⟨t360, A70, H⟩ := H
   replace H : (if t360 = true then (waterhourlaw04_RefillTexts.j0 k l0 a1 (decide ((a1.size : Int) > 5000))) else (waterhourlaw04_RefillTexts.j0 k l0 a1 true)) = some r := H
   have A7 := a_ A70
   clear A70
   by_cases c8 : t360 = true
   ·subst c8
    have H1 : (waterhourlaw04_RefillTexts.j0 k l0 a1 (decide ((a1.size : Int) > 5000))) = some r := by rw [if_pos rfl] at H; exact H
    clear H
    have H := H1
    clear H1
    have H' := a_ H
    clear H
    go_wp2_with (first | ((with_reducible refine gate_callee (f := 5) rfl ?_); refine goesL_ (some 20) rfl rfl Tryz.func5 (by kernel_rfl) rfl #[.slice A0 l0.length c0, .slice none 0 0] rfl tm_ ?_; (refine (waterhourlaw04_few.calls k _ _ l0 _ _ ([] : List (List Int)) true _ ?side1 ?side2 ?side3 ?side4 A7.out).mono ?_); (case side1 => exact cl_ (Kd.C_below HR0.out HB.out)); (case side2 => exact HC0.out); (case side3 => exact Kd.C_nil _ _); (case side4 => exact Nat.le_refl _); rintro e w' ⟨rfl, ⟨nd, rfl⟩⟩; refine ⟨_, rfl, ?_⟩))
    go_meet
    case rel => exact ⟨_, (decide ((a1.size : Int) > 5000)), (by first | rfl | (simp; done) | (simp [*]; done)), H', ⟨by first | omega | exact Nat.le_refl _⟩, ⟨bl_⟩⟩
   ·replace c8 := Bool.eq_false_iff.mpr c8
    subst c8
    have H1 : (waterhourlaw04_RefillTexts.j0 k l0 a1 true) = some r := by rw [if_neg (show ¬ (false = true) by decide)] at H; exact H
    clear H
    have H := H1
    clear H1
    have H' := a_ H
    clear H
    go_wp2_with (first | ((with_reducible refine gate_callee (f := 5) rfl ?_); refine goesL_ (some 20) rfl rfl Tryz.func5 (by kernel_rfl) rfl #[.slice A0 l0.length c0, .slice none 0 0] rfl tm_ ?_; (refine (waterhourlaw04_few.calls k _ _ l0 _ _ ([] : List (List Int)) false _ ?side1 ?side2 ?side3 ?side4 A7.out).mono ?_); (case side1 => exact cl_ (Kd.C_below HR0.out HB.out)); (case side2 => exact HC0.out); (case side3 => exact Kd.C_nil _ _); (case side4 => exact Nat.le_refl _); rintro e w' ⟨rfl, ⟨nd, rfl⟩⟩; refine ⟨_, rfl, ?_⟩))
    go_meet
    case rel => exact ⟨_, (true), (by first | rfl | (simp; done) | (simp [*]; done)), H', ⟨by first | omega | exact Nat.le_refl _⟩, ⟨bl_⟩⟩
  case rest =>
   clear HC5
   try clear p2
   try clear c3
   try clear c4
   try clear c5
   try clear c8
   obtain ⟨kq, x26_4, rfl, HA, HJ4, HB⟩ := hcut
   cases kq with
   | zero => exact absurd HA.out (by simp [waterhourlaw04_RefillTexts.j0])
   | succ kj4 =>
    have H := HA.out
    clear HA
    simp only [waterhourlaw04_RefillTexts.j0] at H
    by_cases c9 : x26_4 = true
    ·subst c9
     have H1 : (some true) = some r := by rw [if_pos rfl] at H; exact H
     clear H
     have H := H1
     clear H1
     obtain rfl := Option.some.inj H
     go_wp2
     go_ret
     exact ⟨by first | rfl | (simp [errW_none, errW_some] <;> rfl) | (simp [*, errW_none, errW_some] <;> rfl), bl_⟩
    ·replace c9 := Bool.eq_false_iff.mpr c9
     subst c9
     have H1 : ((refill_Print.f kj4 l0).bind fun bt361 => ((waterhourref04_Print.f kj4 l0).bind fun bt363 => ((refill_Parse.f kj4 a1).bind fun bt365 => ((waterhourref04_Parse.f kj4 a1).bind fun bt369 => (if bt361.1.toList = bt363.1.toList then (if bt361.2 = bt363.2 then ((waterhourref04_Same.f kj4 bt365.1 bt369.1).bind fun t373 => (if t373 = true then (waterhourlaw04_RefillTexts.j1 kj4 l0 a1 bt361.1 bt361.2 bt365.1 bt365.2 (bt365.2 != bt369.2)) else (waterhourlaw04_RefillTexts.j1 kj4 l0 a1 bt361.1 bt361.2 bt365.1 bt365.2 true))) else (waterhourlaw04_RefillTexts.j1 kj4 l0 a1 bt361.1 bt361.2 bt365.1 bt365.2 true)) else (waterhourlaw04_RefillTexts.j1 kj4 l0 a1 bt361.1 bt361.2 bt365.1 bt365.2 true)))))) = some r := by rw [if_neg (show ¬ (false = true) by decide)] at H; exact H
     clear H
     have H := H1
     clear H1
     replace H := Option.bind_eq_some_iff.mp H
     obtain ⟨⟨t361, t362⟩, A100, H⟩ := H
     replace H : ((waterhourref04_Print.f kj4 l0).bind fun bt363 => ((refill_Parse.f kj4 a1).bind fun bt365 => ((waterhourref04_Parse.f kj4 a1).bind fun bt369 => (if t361.toList = bt363.1.toList then (if t362 = bt363.2 then ((waterhourref04_Same.f kj4 bt365.1 bt369.1).bind fun t373 => (if t373 = true then (waterhourlaw04_RefillTexts.j1 kj4 l0 a1 t361 t362 bt365.1 bt365.2 (bt365.2 != bt369.2)) else (waterhourlaw04_RefillTexts.j1 kj4 l0 a1 t361 t362 bt365.1 bt365.2 true))) else (waterhourlaw04_RefillTexts.j1 kj4 l0 a1 t361 t362 bt365.1 bt365.2 true)) else (waterhourlaw04_RefillTexts.j1 kj4 l0 a1 t361 t362 bt365.1 bt365.2 true))))) = some r := H
     have A10 := a_ A100
     clear A100
     replace H := Option.bind_eq_some_iff.mp H
     obtain ⟨⟨t363, t364⟩, A110, H⟩ := H
     replace H : ((refill_Parse.f kj4 a1).bind fun bt365 => ((waterhourref04_Parse.f kj4 a1).bind fun bt369 => (if t361.toList = t363.toList then (if t362 = t364 then ((waterhourref04_Same.f kj4 bt365.1 bt369.1).bind fun t373 => (if t373 = true then (waterhourlaw04_RefillTexts.j1 kj4 l0 a1 t361 t362 bt365.1 bt365.2 (bt365.2 != bt369.2)) else (waterhourlaw04_RefillTexts.j1 kj4 l0 a1 t361 t362 bt365.1 bt365.2 true))) else (waterhourlaw04_RefillTexts.j1 kj4 l0 a1 t361 t362 bt365.1 bt365.2 true)) else (waterhourlaw04_RefillTexts.j1 kj4 l0 a1 t361 t362 bt365.1 bt365.2 true)))) = some r := H
     have A11 := a_ A110
     clear A110
     replace H := Option.bind_eq_some_iff.mp H
     obtain ⟨⟨t365, t366⟩, A120, H⟩ := H
     replace H : ((waterhourref04_Parse.f kj4 a1).bind fun bt369 => (if t361.toList = t363.toList then (if t362 = t364 then ((waterhourref04_Same.f kj4 t365 bt369.1).bind fun t373 => (if t373 = true then (waterhourlaw04_RefillTexts.j1 kj4 l0 a1 t361 t362 t365 t366 (t366 != bt369.2)) else (waterhourlaw04_RefillTexts.j1 kj4 l0 a1 t361 t362 t365 t366 true))) else (waterhourlaw04_RefillTexts.j1 kj4 l0 a1 t361 t362 t365 t366 true)) else (waterhourlaw04_RefillTexts.j1 kj4 l0 a1 t361 t362 t365 t366 true))) = some r := H
     have A12 := a_ A120
     clear A120
     replace H := Option.bind_eq_some_iff.mp H
     obtain ⟨⟨t369, t370⟩, A130, H⟩ := H
     replace H : (if t361.toList = t363.toList then (if t362 = t364 then ((waterhourref04_Same.f kj4 t365 t369).bind fun t373 => (if t373 = true then (waterhourlaw04_RefillTexts.j1 kj4 l0 a1 t361 t362 t365 t366 (t366 != t370)) else (waterhourlaw04_RefillTexts.j1 kj4 l0 a1 t361 t362 t365 t366 true))) else (waterhourlaw04_RefillTexts.j1 kj4 l0 a1 t361 t362 t365 t366 true)) else (waterhourlaw04_RefillTexts.j1 kj4 l0 a1 t361 t362 t365 t366 true)) = some r := H
     have A13 := a_ A130
     clear A130
     have HC14 := a_ H
     clear H
     go_upto_region 9 with (first | ((with_reducible refine gate_callee (f := 6) rfl ?_); refine goesL_ (some 29) rfl rfl Tryz.func6 (by kernel_rfl) rfl #[.slice A0 l0.length c0] rfl tm_ ?_; (with_reducible refine (refill_Print.calls kj4 _ _ l0 t361 t362 _ ?side1 ?side2 ?side3 A10.out).mono ?_); (case side1 => exact cl_ (Kd.C_below HR0.out HB.out)); (case side2 => exact HC0.out); (case side3 => exact TabB.below HT.out bl_); rintro e w15 ⟨rfl, hb⟩; refine ⟨_, rfl, ?_⟩; have n0_ := a_ (below_step bl_ hb); clear HB; have HB := n0_; clear n0_; (try clear hb); (try clear hb2); (try clear hk); (try clear hi)) | ((with_reducible refine gate_callee (f := 7) rfl ?_); refine goesL_ (some 34) rfl rfl Tryz.func7 (by kernel_rfl) rfl #[.slice A0 l0.length c0] rfl tm_ ?_; (with_reducible refine (waterhourref04_Print.calls kj4 _ _ l0 t363 t364 _ ?side1 ?side2 ?side3 A11.out).mono ?_); (case side1 => exact cl_ (Kd.C_below HR0.out HB.out)); (case side2 => exact HC0.out); (case side3 => exact TabB.below HT.out bl_); rintro e w16 ⟨rfl, hb⟩; refine ⟨_, rfl, ?_⟩; have n0_ := a_ (below_step bl_ hb); clear HB; have HB := n0_; clear n0_; (try clear hb); (try clear hb2); (try clear hk); (try clear hi)) | ((with_reducible refine gate_callee (f := 8) rfl ?_); refine goesL_ (some 39) rfl rfl Tryz.func8 (by kernel_rfl) rfl #[.string a1] rfl tm_ ?_; (with_reducible refine (refill_Parse.calls kj4 a1 t365 t366 _ ?side1 A12.out).mono ?_); (case side1 => exact TabB.below HT.out bl_); rintro e w17 ⟨v367, rfl, ho0, hb⟩; refine ⟨_, rfl, ?_⟩; have n0_ := a_ (Kd.R_lower ho0 (below_size bl_)); have n1_ := a_ (below_step bl_ hb); clear HB; have HO368 := n0_; have HB := n1_; clear n0_ n1_; (try clear hb); (try clear hb2); (try clear hk); (try clear hi); (try clear ho0)) | ((with_reducible refine gate_callee (f := 9) rfl ?_); refine goesL_ (some 44) rfl rfl Tryz.func9 (by kernel_rfl) rfl #[.string a1] rfl tm_ ?_; (with_reducible refine (waterhourref04_Parse.calls kj4 a1 t369 t370 _ ?side1 A13.out).mono ?_); (case side1 => exact TabB.below HT.out bl_); rintro e w18 ⟨v371, rfl, ho0, hb⟩; refine ⟨_, rfl, ?_⟩; have n0_ := a_ (Kd.R_elder' (rl_ HO368.out) (Kd.R_base ho0) hb); have n1_ := a_ (Kd.R_lower (Kd.R_new' ho0 (Kd.R_lt (rl_ HO368.out))) (below_size bl_)); have n2_ := a_ (below_step bl_ hb); clear HO368; clear HB; have HO368 := n0_; have HO372 := n1_; have HB := n2_; clear n0_ n1_ n2_; (try clear hb); (try clear hb2); (try clear hk); (try clear hi); (try clear ho0)))
     (try simp only [Act.put, List.setIfInBounds_toArray, List.set_cons_zero, List.set_cons_succ])
     go_cut [65] (fun v65 wc => ∃ (kq : Nat) (x65_13 : Bool), v65 = .bool x65_13 ∧ Aside0 (waterhourlaw04_RefillTexts.j1 kq l0 a1 t361 t362 t365 t366 x65_13 = some r) ∧ Aside0 (kq ≤ kj4) ∧ Aside0 (Kd.R k37 37 wc w.heap.size (fun _ => True) v367 t365) ∧ Aside0 (Below w.heap.size w wc))
     case first =>
      have H := HC14.out
      clear HC14
      by_cases c19 : t361.toList = t363.toList
      ·rw [if_pos c19] at H
       have c19b0 : (t361.toList == t363.toList) = true := beq_iff_eq.mpr c19
       have c19b1 : (t361.toList != t363.toList) = false := bne_eq_false_iff_eq.mpr c19
       clear c19
       (first | rw [c19b0] | (simp only [i64_w, i32_w]; rw [c19b0]) | skip)
       by_cases c20 : t362 = t364
       ·rw [if_pos c20] at H
        have c20b0 : (t362 == t364) = true := beq_iff_eq.mpr c20
        have c20b1 : (t362 != t364) = false := bne_eq_false_iff_eq.mpr c20
        clear c20
        replace H := Option.bind_eq_some_iff.mp H
        obtain ⟨t373, A210, H⟩ := H
        replace H : (if t373 = true then (waterhourlaw04_RefillTexts.j1 kj4 l0 a1 t361 t362 t365 t366 (t366 != t370)) else (waterhourlaw04_RefillTexts.j1 kj4 l0 a1 t361 t362 t365 t366 true)) = some r := H
        have A21 := a_ A210
        clear A210
        by_cases c22 : t373 = true
        ·subst c22
         have H1 : (waterhourlaw04_RefillTexts.j1 kj4 l0 a1 t361 t362 t365 t366 (t366 != t370)) = some r := by rw [if_pos rfl] at H; exact H
         clear H
         have H := H1
         clear H1
         have H' := a_ H
         clear H
         obtain ⟨Ao23, co23, eo23⟩ := Kd.R_slice HO368.out
         subst eo23
         obtain ⟨Ao24, co24, eo24⟩ := Kd.R_slice HO372.out
         subst eo24
         go_wp2_with (first | (go_at_call 10; (with_reducible refine (waterhourref04_Same.calls kj4 _ _ t365 _ _ t369 true _ ?side1 ?side2 ?side3 ?side4 A21.out).mono ?_); (case side1 => exact cl_ ((Kd.R_reads' HO368.out).2.2)); (case side2 => exact (Kd.R_reads' HO368.out).2.1); (case side3 => exact cl_ ((Kd.R_reads' HO372.out).2.2)); (case side4 => exact (Kd.R_reads' HO372.out).2.1); rintro e w' ⟨rfl, ⟨nd, rfl⟩⟩))
         go_meet
         case rel => exact ⟨_, ((t366 != t370)), (by first | rfl | (simp; done) | (simp [*]; done)), H', ⟨by have := HJ4.out; first | omega | exact Nat.le_refl _⟩, ⟨rl_ (Kd.R_mono HO368.out (fun _ hk => trivial))⟩, ⟨bl_⟩⟩
        ·replace c22 := Bool.eq_false_iff.mpr c22
         subst c22
         have H1 : (waterhourlaw04_RefillTexts.j1 kj4 l0 a1 t361 t362 t365 t366 true) = some r := by rw [if_neg (show ¬ (false = true) by decide)] at H; exact H
         clear H
         have H := H1
         clear H1
         have H' := a_ H
         clear H
         obtain ⟨Ao25, co25, eo25⟩ := Kd.R_slice HO368.out
         subst eo25
         obtain ⟨Ao26, co26, eo26⟩ := Kd.R_slice HO372.out
         subst eo26
         go_wp2_with (first | (go_at_call 10; (with_reducible refine (waterhourref04_Same.calls kj4 _ _ t365 _ _ t369 false _ ?side1 ?side2 ?side3 ?side4 A21.out).mono ?_); (case side1 => exact cl_ ((Kd.R_reads' HO368.out).2.2)); (case side2 => exact (Kd.R_reads' HO368.out).2.1); (case side3 => exact cl_ ((Kd.R_reads' HO372.out).2.2)); (case side4 => exact (Kd.R_reads' HO372.out).2.1); rintro e w' ⟨rfl, ⟨nd, rfl⟩⟩))
         go_meet
         case rel => exact ⟨_, (true), (by first | rfl | (simp; done) | (simp [*]; done)), H', ⟨by have := HJ4.out; first | omega | exact Nat.le_refl _⟩, ⟨rl_ (Kd.R_mono HO368.out (fun _ hk => trivial))⟩, ⟨bl_⟩⟩
       ·rw [if_neg c20] at H
        have c20b0 : (t362 == t364) = false := beq_eq_false_iff_ne.mpr c20
        have c20b1 : (t362 != t364) = true := bne_iff_ne.mpr c20
        have H' := a_ H
        clear H
        go_wp2
        go_meet
        case rel => exact ⟨_, (true), (by first | rfl | (simp; done) | (simp [*]; done)), H', ⟨by have := HJ4.out; first | omega | exact Nat.le_refl _⟩, ⟨rl_ (Kd.R_mono HO368.out (fun _ hk => trivial))⟩, ⟨bl_⟩⟩
      ·rw [if_neg c19] at H
       have c19b0 : (t361.toList == t363.toList) = false := beq_eq_false_iff_ne.mpr c19
       have c19b1 : (t361.toList != t363.toList) = true := bne_iff_ne.mpr c19
       (first | rw [c19b0] | (simp only [i64_w, i32_w]; rw [c19b0]) | skip)
       have H' := a_ H
       clear H
       go_wp2
       go_meet
       case rel => exact ⟨_, (true), (by first | rfl | (simp; done) | (simp [*]; done)), H', ⟨by have := HJ4.out; first | omega | exact Nat.le_refl _⟩, ⟨rl_ (Kd.R_mono HO368.out (fun _ hk => trivial))⟩, ⟨bl_⟩⟩
     case rest =>
      clear HC14
      try clear c1
      try clear c2
      try clear p2
      try clear c3
      try clear c4
      try clear c5
      try clear c6
      try clear c7
      try clear c8
      try clear c9
      try clear c19
      try clear c19b0
      try clear c19b1
      try clear c20
      try clear c20b0
      try clear c20b1
      try clear c22
      try clear p2
      obtain ⟨kq, x65_13, rfl, HA, HJ13, HO_9, HB⟩ := hcut
      cases kq with
      | zero => exact absurd HA.out (by simp [waterhourlaw04_RefillTexts.j1])
      | succ kj13 =>
       have H := HA.out
       clear HA
       simp only [waterhourlaw04_RefillTexts.j1] at H
       by_cases c27 : x65_13 = true
       ·subst c27
        have H1 : (some false) = some r := by rw [if_pos rfl] at H; exact H
        clear H
        have H := H1
        clear H1
        exact absurd (H.trans (congrArg some hrt.out)) (by simp)
       ·replace c27 := Bool.eq_false_iff.mpr c27
        subst c27
        have H1 : (if t362 = 0 then ((refill_Parse.f kj13 t361).bind fun bt374 => (if bt374.2 = 0 then ((waterhourref04_Same.f kj13 bt374.1 l0).bind fun t378 => (if t378 = true then (waterhourlaw04_RefillTexts.j2 kj13 a1 t365 t366) else (some false))) else (some false))) else (waterhourlaw04_RefillTexts.j2 kj13 a1 t365 t366)) = some r := by rw [if_neg (show ¬ (false = true) by decide)] at H; exact H
        clear H
        have H := H1
        clear H1
        have HC28 := a_ H
        clear H
        go_upto_if 67 with (fail)
        go_cut [] (fun wc => ∃ (kq : Nat), Aside0 (waterhourlaw04_RefillTexts.j2 kq a1 t365 t366 = some r) ∧ Aside0 (kq ≤ kj13) ∧ Aside0 (Kd.R k37 37 wc w.heap.size (fun _ => True) v367 t365) ∧ Aside0 (Below w.heap.size w wc))
        case first =>
         have H := HC28.out
         clear HC28
         by_cases c29 : t362 = 0
         ·rw [if_pos c29] at H
          have c29b0 : (t362 == 0) = true := beq_iff_eq.mpr c29
          have c29b1 : (t362 != 0) = false := bne_eq_false_iff_eq.mpr c29
          clear c29
          (first | rw [c29b0] | (simp only [i64_w, i32_w]; rw [c29b0]) | skip)
          replace H := Option.bind_eq_some_iff.mp H
          obtain ⟨⟨t374, t375⟩, A300, H⟩ := H
          replace H : (if t375 = 0 then ((waterhourref04_Same.f kj13 t374 l0).bind fun t378 => (if t378 = true then (waterhourlaw04_RefillTexts.j2 kj13 a1 t365 t366) else (some false))) else (some false)) = some r := H
          have A30 := a_ A300
          clear A300
          by_cases c31 : t375 = 0
          ·rw [if_pos c31] at H
           have c31b0 : (t375 == 0) = true := beq_iff_eq.mpr c31
           have c31b1 : (t375 != 0) = false := bne_eq_false_iff_eq.mpr c31
           clear c31
           replace H := Option.bind_eq_some_iff.mp H
           obtain ⟨t378, A320, H⟩ := H
           replace H : (if t378 = true then (waterhourlaw04_RefillTexts.j2 kj13 a1 t365 t366) else (some false)) = some r := H
           have A32 := a_ A320
           clear A320
           by_cases c33 : t378 = true
           ·subst c33
            have H1 : (waterhourlaw04_RefillTexts.j2 kj13 a1 t365 t366) = some r := by rw [if_pos rfl] at H; exact H
            clear H
            have H := H1
            clear H1
            have H' := a_ H
            clear H
            go_wp2_with (first | ((with_reducible refine gate_callee (f := 8) rfl ?_); refine goesL_ (some 70) rfl rfl Tryz.func8 (by kernel_rfl) rfl #[.string t361] rfl tm_ ?_; (with_reducible refine (refill_Parse.calls kj13 t361 t374 t375 _ ?side1 A30.out).mono ?_); (case side1 => exact TabB.below HT.out bl_); rintro e w34 ⟨v376, rfl, ho0, hb⟩; refine ⟨_, rfl, ?_⟩; have n0_ := a_ (Kd.R_elder' (rl_ HO_9.out) (Kd.R_base ho0) hb); have n1_ := a_ (Kd.R_lower (Kd.R_new' ho0 (Kd.R_lt (rl_ HO_9.out))) (below_size bl_)); have n2_ := a_ (below_step bl_ hb); clear HO_9; clear HB; have HO_9 := n0_; have HO377 := n1_; have HB := n2_; clear n0_ n1_ n2_; (try clear hb); (try clear hb2); (try clear hk); (try clear hi); (try clear ho0); obtain ⟨Ao35, co35, eo35⟩ := Kd.R_slice HO377.out; subst eo35) | (go_at_call 10; (with_reducible refine (waterhourref04_Same.calls kj13 _ _ t374 _ _ l0 true _ ?side1 ?side2 ?side3 ?side4 A32.out).mono ?_); (case side1 => exact cl_ ((Kd.R_reads' HO377.out).2.2)); (case side2 => exact (Kd.R_reads' HO377.out).2.1); (case side3 => exact cl_ (Kd.C_below HR0.out HB.out)); (case side4 => exact HC0.out); rintro e w' ⟨rfl, ⟨nd, rfl⟩⟩))
            go_meet
            case rel => exact ⟨_, H', ⟨by have := HJ4.out; have := HJ13.out; first | omega | exact Nat.le_refl _⟩, ⟨rl_ (Kd.R_mono HO_9.out (fun _ hk => trivial))⟩, ⟨bl_⟩⟩
           ·replace c33 := Bool.eq_false_iff.mpr c33
            subst c33
            have H1 : (some false) = some r := by rw [if_neg (show ¬ (false = true) by decide)] at H; exact H
            clear H
            have H := H1
            clear H1
            exact absurd (H.trans (congrArg some hrt.out)) (by simp)
          ·rw [if_neg c31] at H
           have c31b0 : (t375 == 0) = false := beq_eq_false_iff_ne.mpr c31
           have c31b1 : (t375 != 0) = true := bne_iff_ne.mpr c31
           exact absurd (H.trans (congrArg some hrt.out)) (by simp)
         ·rw [if_neg c29] at H
          have c29b0 : (t362 == 0) = false := beq_eq_false_iff_ne.mpr c29
          have c29b1 : (t362 != 0) = true := bne_iff_ne.mpr c29
          (first | rw [c29b0] | (simp only [i64_w, i32_w]; rw [c29b0]) | skip)
          have H' := a_ H
          clear H
          go_wp2
          go_meet
          case rel => exact ⟨_, H', ⟨by have := HJ4.out; have := HJ13.out; first | omega | exact Nat.le_refl _⟩, ⟨rl_ HO_9.out⟩, ⟨bl_⟩⟩
        case rest =>
         clear HC28
         try clear c1
         try clear c2
         try clear p2
         try clear c3
         try clear c4
         try clear c5
         try clear c6
         try clear c7
         try clear c8
         try clear c9
         try clear c19
         try clear c19b0
         try clear c19b1
         try clear c20
         try clear c20b0
         try clear c20b1
         try clear c22
         try clear c27
         try clear c29
         try clear c29b0
         try clear c29b1
         try clear c31
         try clear c31b0
         try clear c31b1
         try clear c33
         try clear p2
         obtain ⟨kq, HA, HJ27, HO_9, HB⟩ := hcut
         cases kq with
         | zero => exact absurd HA.out (by simp [waterhourlaw04_RefillTexts.j2])
         | succ kj27 =>
          have H := HA.out
          clear HA
          simp only [waterhourlaw04_RefillTexts.j2] at H
          by_cases c36 : t366 = 0
          ·rw [if_pos c36] at H
           have c36b0 : (t366 == 0) = true := beq_iff_eq.mpr c36
           have c36b1 : (t366 != 0) = false := bne_eq_false_iff_eq.mpr c36
           clear c36
           replace H := Option.bind_eq_some_iff.mp H
           obtain ⟨⟨t379, t380⟩, A370, H⟩ := H
           replace H : (if t380 = 0 then (if t379.toList = a1.toList then (some true) else (some false)) else (some false)) = some r := H
           have A37 := a_ A370
           clear A370
           by_cases c38 : t380 = 0
           ·rw [if_pos c38] at H
            have c38b0 : (t380 == 0) = true := beq_iff_eq.mpr c38
            have c38b1 : (t380 != 0) = false := bne_eq_false_iff_eq.mpr c38
            clear c38
            by_cases c39 : t379.toList = a1.toList
            ·rw [if_pos c39] at H
             have c39b0 : (t379.toList == a1.toList) = true := beq_iff_eq.mpr c39
             have c39b1 : (t379.toList != a1.toList) = false := bne_eq_false_iff_eq.mpr c39
             clear c39
             obtain rfl := Option.some.inj H
             obtain ⟨Ao40, co40, eo40⟩ := Kd.R_slice HO_9.out
             subst eo40
             go_wp2_with (first | ((with_reducible refine gate_callee (f := 6) rfl ?_); refine goesL_ (some 85) rfl rfl Tryz.func6 (by kernel_rfl) rfl #[.slice Ao40 t365.length co40] rfl tm_ ?_; (with_reducible refine (refill_Print.calls kj27 _ _ t365 t379 t380 _ ?side1 ?side2 ?side3 A37.out).mono ?_); (case side1 => exact cl_ ((Kd.R_reads' HO_9.out).2.2)); (case side2 => exact (Kd.R_reads' HO_9.out).2.1); (case side3 => exact TabB.below HT.out bl_); rintro e w41 ⟨rfl, hb⟩; refine ⟨_, rfl, ?_⟩; have n0_ := a_ (Kd.R_below (rl_ HO_9.out) hb); have n1_ := a_ (below_step bl_ hb); clear HO_9; clear HB; have HO_9 := n0_; have HB := n1_; clear n0_ n1_; (try clear hb); (try clear hb2); (try clear hk); (try clear hi)))
             go_ret
             exact ⟨by first | rfl | (simp [errW_none, errW_some] <;> rfl) | (simp [*, errW_none, errW_some] <;> rfl), bl_⟩
            ·rw [if_neg c39] at H
             have c39b0 : (t379.toList == a1.toList) = false := beq_eq_false_iff_ne.mpr c39
             have c39b1 : (t379.toList != a1.toList) = true := bne_iff_ne.mpr c39
             exact absurd (H.trans (congrArg some hrt.out)) (by simp)
           ·rw [if_neg c38] at H
            have c38b0 : (t380 == 0) = false := beq_eq_false_iff_ne.mpr c38
            have c38b1 : (t380 != 0) = true := bne_iff_ne.mpr c38
            exact absurd (H.trans (congrArg some hrt.out)) (by simp)
          ·rw [if_neg c36] at H
           have c36b0 : (t366 == 0) = false := beq_eq_false_iff_ne.mpr c36
           have c36b1 : (t366 != 0) = true := bne_iff_ne.mpr c36
           obtain rfl := Option.some.inj H
           go_wp2
           go_ret
           exact ⟨by first | rfl | (simp [errW_none, errW_some] <;> rfl) | (simp [*, errW_none, errW_some] <;> rfl), bl_⟩
 ·replace c4 := Bool.eq_false_iff.mpr c4
  subst c4
  have H1 : (some false) = some r := by rw [if_neg (show ¬ (false = true) by decide)] at H; exact H
  clear H
  have H := H1
  clear H1
  exact absurd (H.trans (congrArg some hrt.out)) (by simp)

end Go.Proofs.YtgiihjcpgjpkcaaGreatDoor.Q
