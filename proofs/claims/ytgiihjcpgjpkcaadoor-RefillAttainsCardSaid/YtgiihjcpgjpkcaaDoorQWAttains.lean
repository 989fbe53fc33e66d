/- Contracts of functions of the given program: each Go function as a plain Lean function (name.f) and the proof that its call answers just so, for every reading of its arguments. Written by the session's program wip/xprint.py out of the translation. -/
import Derived.Test.YtgiihjcpgjpkcaaDoorQ0
import Derived.Test.YtgiihjcpgjpkcaaDoorQH
import Derived.Test.YtgiihjcpgjpkcaaDoorQI
import Derived.Test.YtgiihjcpgjpkcaaDoorQJ
import Derived.Test.YtgiihjcpgjpkcaaDoorHSane
namespace Go.Proofs.YtgiihjcpgjpkcaaDoor.Q
open Go.RowKit Go.Proofs.YtgiihjcpgjpkcaaDoorW.PrintWords Go.Proofs.YtgiihjcpgjpkcaaDoorW.PrintLast Go.Proofs.YtgiihjcpgjpkcaaDoorW.PrintMore
attribute [local go_sem] max2_int min2_int max_two min_two max_three min_three max_four min_four   -- for this text's walks alone
set_option linter.unusedVariables false
set_option linter.unusedSimpArgs false

/-! ### waterhourlaw04_RefillAttains: function 3 -/
def waterhourlaw04_RefillAttains.f (k : Nat) (l0 : List (S51)) (a1 : Int) (a2 : Int) : Option (Bool) := (law_sane.f).bind fun t340 => (if t340 = true then ((waterhourlaw04_few.f k l0 ([] : List (List Int))).bind fun t341 => (if t341 = true then ((refill_Attain.f k l0 a1 a2).bind fun bt342 => ((waterhourref04_Attain.f k l0 a1 a2).bind fun bt347 => ((slices_Equal_int_int.f k bt342.1 bt347.1).bind fun t352 => (if t352 = true then (if (bt342.2.1 == bt347.2.1) = true then (some (bt342.2.2 == bt347.2.2)) else (some false)) else (some false))))) else (some true))) else (some false))
theorem waterhourlaw04_RefillAttains.mono : ∀ a0 a1 a2 k, LeO (waterhourlaw04_RefillAttains.f k a0 a1 a2) (waterhourlaw04_RefillAttains.f (k + 1) a0 a1 a2) := by
 intro a0 a1 a2 k
 unfold waterhourlaw04_RefillAttains.f
 repeat' first
   | (with_reducible exact refill_Attain.mono _ _ _ _)
   | (with_reducible exact slices_Equal_int_int.mono _ _ _)
   | (with_reducible exact waterhourlaw04_few.mono _ _ _)
   | (with_reducible exact waterhourref04_Attain.mono _ _ _ _)
   | (with_reducible exact LeO.refl _)
   | (with_reducible exact LeO.none _)
   | (with_reducible refine LeO.ite ?_ ?_)
   | (with_reducible refine LeO.bind ?_ (fun _ => ?_))
   | exact refill_Attain.mono _ _ _ _
   | exact slices_Equal_int_int.mono _ _ _
   | exact waterhourlaw04_few.mono _ _ _
   | exact waterhourref04_Attain.mono _ _ _ _
   | exact LeO.none _
   | refine LeO.ite ?_ ?_
   | refine LeO.bind ?_ (fun _ => ?_)
set_option maxHeartbeats 8000000 in
set_option maxRecDepth 100000 in
theorem waterhourlaw04_RefillAttains.calls (k : Nat) (A0 : Option Addr) (c0 : Nat) (l0 : List (S51)) (a1 : Int) (a2 : Int) (r : Bool) (w : World) (hr0 : Kd.C k51 w A0 l0.length l0) (hc0 : l0.length ≤ c0) (ht : TabB w) (hrt : Aside0 (r = true)) (h : waterhourlaw04_RefillAttains.f k l0 a1 a2 = some r) :
  Calls Tryd.prog 3 #[.slice A0 l0.length c0, .int .i64 a1, .int .i64 a2] w fun e w' => e = .returned (.bool r) ∧ Below w.heap.size w w' := by
 have HR0 := a_ hr0
 have HC0 := a_ hc0
 clear hr0 hc0
 have HT := a_ ht
 clear ht
 have HB := a_ (Below.refl w.heap.size w)
 have H : ((law_sane.f).bind fun t340 => (if t340 = true then ((waterhourlaw04_few.f k l0 ([] : List (List Int))).bind fun t341 => (if t341 = true then ((refill_Attain.f k l0 a1 a2).bind fun bt342 => ((waterhourref04_Attain.f k l0 a1 a2).bind fun bt347 => ((slices_Equal_int_int.f k bt342.1 bt347.1).bind fun t352 => (if t352 = true then (if (bt342.2.1 == bt347.2.1) = true then (some (bt342.2.2 == bt347.2.2)) else (some false)) else (some false))))) else (some true))) else (some false))) = some r := h
 clear h
 replace H := Option.bind_eq_some_iff.mp H
 obtain ⟨t340, A40, H⟩ := H
 replace H : (if t340 = true then ((waterhourlaw04_few.f k l0 ([] : List (List Int))).bind fun t341 => (if t341 = true then ((refill_Attain.f k l0 a1 a2).bind fun bt342 => ((waterhourref04_Attain.f k l0 a1 a2).bind fun bt347 => ((slices_Equal_int_int.f k bt342.1 bt347.1).bind fun t352 => (if t352 = true then (if (bt342.2.1 == bt347.2.1) = true then (some (bt342.2.2 == bt347.2.2)) else (some false)) else (some false))))) else (some true))) else (some false)) = some r := H
 have A4 := a_ A40
 clear A40
 by_cases c5 : t340 = true
 ·subst c5
  have H1 : ((waterhourlaw04_few.f k l0 ([] : List (List Int))).bind fun t341 => (if t341 = true then ((refill_Attain.f k l0 a1 a2).bind fun bt342 => ((waterhourref04_Attain.f k l0 a1 a2).bind fun bt347 => ((slices_Equal_int_int.f k bt342.1 bt347.1).bind fun t352 => (if t352 = true then (if (bt342.2.1 == bt347.2.1) = true then (some (bt342.2.2 == bt347.2.2)) else (some false)) else (some false))))) else (some true))) = some r := by rw [if_pos rfl] at H; exact H
  clear H
  have H := H1
  clear H1
  replace H := Option.bind_eq_some_iff.mp H
  obtain ⟨t341, A60, H⟩ := H
  replace H : (if t341 = true then ((refill_Attain.f k l0 a1 a2).bind fun bt342 => ((waterhourref04_Attain.f k l0 a1 a2).bind fun bt347 => ((slices_Equal_int_int.f k bt342.1 bt347.1).bind fun t352 => (if t352 = true then (if (bt342.2.1 == bt347.2.1) = true then (some (bt342.2.2 == bt347.2.2)) else (some false)) else (some false))))) else (some true)) = some r := H
  have A6 := a_ A60
  clear A60
  by_cases c7 : t341 = true
  ·subst c7
   have H1 : ((refill_Attain.f k l0 a1 a2).bind fun bt342 => ((waterhourref04_Attain.f k l0 a1 a2).bind fun bt347 => ((slices_Equal_int_int.f k bt342.1 bt347.1).bind fun t352 => (if t352 = true then (if (bt342.2.1 == bt347.2.1) = true then (some (bt342.2.2 == bt347.2.2)) else (some false)) else (some false))))) = some r := by rw [if_pos rfl] at H; exact H
   clear H
   have H := H1
   clear H1
   replace H := Option.bind_eq_some_iff.mp H
   obtain ⟨⟨t342, t343, t344⟩, A80, H⟩ := H
   replace H : ((waterhourref04_Attain.f k l0 a1 a2).bind fun bt347 => ((slices_Equal_int_int.f k t342 bt347.1).bind fun t352 => (if t352 = true then (if (t343 == bt347.2.1) = true then (some (t344 == bt347.2.2)) else (some false)) else (some false)))) = some r := H
   have A8 := a_ A80
   clear A80
   replace H := Option.bind_eq_some_iff.mp H
   obtain ⟨⟨t347, t348, t349⟩, A90, H⟩ := H
   replace H : ((slices_Equal_int_int.f k t342 t347).bind fun t352 => (if t352 = true then (if (t343 == t348) = true then (some (t344 == t349)) else (some false)) else (some false))) = some r := H
   have A9 := a_ A90
   clear A90
   replace H := Option.bind_eq_some_iff.mp H
   obtain ⟨t352, A100, H⟩ := H
   replace H : (if t352 = true then (if (t343 == t348) = true then (some (t344 == t349)) else (some false)) else (some false)) = some r := H
   have A10 := a_ A100
   clear A100
   by_cases c11 : t352 = true
   ·subst c11
    have H1 : (if (t343 == t348) = true then (some (t344 == t349)) else (some false)) = some r := by rw [if_pos rfl] at H; exact H
    clear H
    have H := H1
    clear H1
    by_cases c12 : (t343 == t348) = true
    ·rw [if_pos c12] at H
     have c12b0 : (t343 == t348) = true := c12
     (try (have c12b1 : decide (t343 = t348) = true := by simpa using c12))
     (try (have c12b2 : (t343 == t348) = true := by simpa using c12))
     clear c12
     obtain rfl := Option.some.inj H
     go_enter Tryd.func3, Tryd.ntmps3
     go_wp2_with (first | ((with_reducible refine gate_callee (f := 18) rfl ?_); refine goesL_ (some 13) rfl rfl Tryd.func18 (by kernel_rfl) rfl #[] rfl tm_ ?_; (with_reducible refine (law_sane.calls  true _ ?side1 A4.out).mono ?_); (case side1 => exact TabB.below HT.out bl_); rintro e w13 ⟨rfl, hb⟩; refine ⟨_, rfl, ?_⟩; have n0_ := a_ (below_step bl_ hb); clear HB; have HB := n0_; clear n0_; (try clear hb); (try clear hb2); (try clear hk); (try clear hi)) | ((with_reducible refine gate_callee (f := 19) rfl ?_); refine goesL_ (some 16) rfl rfl Tryd.func19 (by kernel_rfl) rfl #[.slice A0 l0.length c0, .slice none 0 0] rfl tm_ ?_; (refine (waterhourlaw04_few.calls k _ _ l0 _ _ ([] : List (List Int)) true _ ?side1 ?side2 ?side3 ?side4 A6.out).mono ?_); (case side1 => exact cl_ (Kd.C_below HR0.out HB.out)); (case side2 => exact HC0.out); (case side3 => exact Kd.C_nil _ _); (case side4 => exact Nat.le_refl _); rintro e w' ⟨rfl, ⟨nd, rfl⟩⟩; refine ⟨_, rfl, ?_⟩) | ((with_reducible refine gate_callee (f := 20) rfl ?_); refine goesL_ (some 22) rfl rfl Tryd.func20 (by kernel_rfl) rfl #[.slice A0 l0.length c0, .int .i64 a1, .int .i64 a2] rfl tm_ ?_; (with_reducible refine (refill_Attain.calls k _ _ l0 a1 a2 t342 t343 t344 _ ?side1 ?side2 A8.out).mono ?_); (case side1 => exact cl_ (Kd.C_below HR0.out bl_)); (case side2 => exact HC0.out); rintro e w14 ⟨v345, rfl, ho0, hb⟩; refine ⟨_, rfl, ?_⟩; have n0_ := a_ (Kd.R_lower ho0 (below_size bl_)); have n1_ := a_ (below_step bl_ hb); clear HB; have HO346 := n0_; have HB := n1_; clear n0_ n1_; (try clear hb); (try clear hb2); (try clear hk); (try clear hi); (try clear ho0)) | ((with_reducible refine gate_callee (f := 21) rfl ?_); refine goesL_ (some 30) rfl rfl Tryd.func21 (by kernel_rfl) rfl #[.slice A0 l0.length c0, .int .i64 a1, .int .i64 a2] rfl tm_ ?_; (with_reducible refine (waterhourref04_Attain.calls k _ _ l0 a1 a2 t347 t348 t349 _ ?side1 ?side2 A9.out).mono ?_); (case side1 => exact cl_ (Kd.C_below HR0.out HB.out)); (case side2 => exact HC0.out); rintro e w15 ⟨v350, rfl, ho0, hb⟩; refine ⟨_, rfl, ?_⟩; have n0_ := a_ (Kd.R_elder' (rl_ HO346.out) (Kd.R_base ho0) hb); have n1_ := a_ (Kd.R_lower (Kd.R_new' ho0 (Kd.R_lt (rl_ HO346.out))) (below_size bl_)); have n2_ := a_ (below_step bl_ hb); clear HO346; clear HB; have HO346 := n0_; have HO351 := n1_; have HB := n2_; clear n0_ n1_ n2_; (try clear hb); (try clear hb2); (try clear hk); (try clear hi); (try clear ho0); obtain ⟨Ao16, co16, eo16⟩ := Kd.R_slice HO346.out; subst eo16; obtain ⟨Ao17, co17, eo17⟩ := Kd.R_slice HO351.out; subst eo17) | ((with_reducible refine gate_callee (f := 22) rfl ?_); refine goesL_ (some 36) rfl rfl Tryd.func22 (by kernel_rfl) rfl #[.slice Ao16 t342.length co16, .slice Ao17 t347.length co17] rfl tm_ ?_; (with_reducible refine (slices_Equal_int_int.calls k _ _ t342 _ _ t347 true _ ?side1 ?side2 ?side3 ?side4 A10.out).mono ?_); (case side1 => exact cl_ ((Kd.R_reads' HO346.out).2.2)); (case side2 => exact (Kd.R_reads' HO346.out).2.1); (case side3 => exact cl_ ((Kd.R_reads' HO351.out).2.2)); (case side4 => exact (Kd.R_reads' HO351.out).2.1); rintro e w' ⟨rfl, ⟨nd, rfl⟩⟩; refine ⟨_, rfl, ?_⟩))
     go_ret
     exact ⟨by first | rfl | (simp [errW_none, errW_some] <;> rfl) | (simp [*, errW_none, errW_some] <;> rfl), bl_⟩
    ·rw [if_neg c12] at H
     have c12b0 : (t343 == t348) = false := by simpa using c12
     (try (have c12b1 : decide (t343 = t348) = false := by simpa using c12))
     (try (have c12b2 : (t343 == t348) = false := by simpa using c12))
     (try (have c12b3 : ¬ (t343 = t348) := by simpa using c12))
     clear c12
     exact absurd (H.trans (congrArg some hrt.out)) (by simp)
   ·replace c11 := Bool.eq_false_iff.mpr c11
    subst c11
    have H1 : (some false) = some r := by rw [if_neg (show ¬ (false = true) by decide)] at H; exact H
    clear H
    have H := H1
    clear H1
    exact absurd (H.trans (congrArg some hrt.out)) (by simp)
  ·replace c7 := Bool.eq_false_iff.mpr c7
   subst c7
   have H1 : (some true) = some r := by rw [if_neg (show ¬ (false = true) by decide)] at H; exact H
   clear H
   have H := H1
   clear H1
   obtain rfl := Option.some.inj H
   go_enter Tryd.func3, Tryd.ntmps3
   go_wp2_with (first | ((with_reducible refine gate_callee (f := 18) rfl ?_); refine goesL_ (some 13) rfl rfl Tryd.func18 (by kernel_rfl) rfl #[] rfl tm_ ?_; (with_reducible refine (law_sane.calls  true _ ?side1 A4.out).mono ?_); (case side1 => exact TabB.below HT.out bl_); rintro e w18 ⟨rfl, hb⟩; refine ⟨_, rfl, ?_⟩; have n0_ := a_ (below_step bl_ hb); clear HB; have HB := n0_; clear n0_; (try clear hb); (try clear hb2); (try clear hk); (try clear hi)) | ((with_reducible refine gate_callee (f := 19) rfl ?_); refine goesL_ (some 16) rfl rfl Tryd.func19 (by kernel_rfl) rfl #[.slice A0 l0.length c0, .slice none 0 0] rfl tm_ ?_; (refine (waterhourlaw04_few.calls k _ _ l0 _ _ ([] : List (List Int)) false _ ?side1 ?side2 ?side3 ?side4 A6.out).mono ?_); (case side1 => exact cl_ (Kd.C_below HR0.out HB.out)); (case side2 => exact HC0.out); (case side3 => exact Kd.C_nil _ _); (case side4 => exact Nat.le_refl _); rintro e w' ⟨rfl, ⟨nd, rfl⟩⟩; refine ⟨_, rfl, ?_⟩))
   go_ret
   exact ⟨by first | rfl | (simp [errW_none, errW_some] <;> rfl) | (simp [*, errW_none, errW_some] <;> rfl), bl_⟩
 ·replace c5 := Bool.eq_false_iff.mpr c5
  subst c5
  have H1 : (some false) = some r := by rw [if_neg (show ¬ (false = true) by decide)] at H; exact H
  clear H
  have H := H1
  clear H1
  exact absurd (H.trans (congrArg some hrt.out)) (by simp)

end Go.Proofs.YtgiihjcpgjpkcaaDoor.Q
