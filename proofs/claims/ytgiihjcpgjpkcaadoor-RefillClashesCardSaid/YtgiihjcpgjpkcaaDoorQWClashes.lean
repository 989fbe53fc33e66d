/- Contracts of functions of the given program: each Go function as a plain Lean function (name.f) and the proof that its call answers just so, for every reading of its arguments. Written by the session's program wip/xprint.py out of the translation. -/
import Derived.Test.YtgiihjcpgjpkcaaDoorQ0
import Derived.Test.YtgiihjcpgjpkcaaDoorQD
import Derived.Test.YtgiihjcpgjpkcaaDoorQF
import Derived.Test.YtgiihjcpgjpkcaaDoorQG
import Derived.Test.YtgiihjcpgjpkcaaDoorQI
import Derived.Test.YtgiihjcpgjpkcaaDoorQK
import Derived.Test.YtgiihjcpgjpkcaaDoorHSane
namespace Go.Proofs.YtgiihjcpgjpkcaaDoor.Q
open Go.RowKit Go.Proofs.YtgiihjcpgjpkcaaDoorW.PrintWords Go.Proofs.YtgiihjcpgjpkcaaDoorW.PrintLast Go.Proofs.YtgiihjcpgjpkcaaDoorW.PrintMore
attribute [local go_sem] max2_int min2_int max_two min_two max_three min_three max_four min_four   -- for this text's walks alone
set_option linter.unusedVariables false
set_option linter.unusedSimpArgs false

/-! ### waterhourlaw04_RefillClashes: function 4 -/
def waterhourlaw04_RefillClashes.f (k : Nat) (l0 : List (S51)) (a1 : Int) (a2 : Int) : Option (Bool) := (law_sane.f).bind fun t357 => (if t357 = true then ((waterhourlaw04_few.f k l0 ([] : List (List Int))).bind fun t358 => (if t358 = true then ((refill_Clash.f k l0).bind fun bt359 => ((waterhourref04_Clash.f k l0).bind fun bt363 => (if bt359.1 = bt363.1 then (if bt359.2.1 = bt363.2.1 then (if (bt359.2.2.1 == bt363.2.2.1) = true then (if bt359.2.2.2 = bt363.2.2.2 then ((refill_CheckClash.f k l0 a1 a2).bind fun t367 => ((waterhourref04_CheckClash.f k l0 a1 a2).bind fun t368 => (some (t367 == t368)))) else (some false)) else (some false)) else (some false)) else (some false)))) else (some true))) else (some false))
theorem waterhourlaw04_RefillClashes.mono : ∀ a0 a1 a2 k, LeO (waterhourlaw04_RefillClashes.f k a0 a1 a2) (waterhourlaw04_RefillClashes.f (k + 1) a0 a1 a2) := by
 intro a0 a1 a2 k
 unfold waterhourlaw04_RefillClashes.f
 repeat' first
   | (with_reducible exact refill_CheckClash.mono _ _ _ _)
   | (with_reducible exact refill_Clash.mono _ _)
   | (with_reducible exact waterhourlaw04_few.mono _ _ _)
   | (with_reducible exact waterhourref04_CheckClash.mono _ _ _ _)
   | (with_reducible exact waterhourref04_Clash.mono _ _)
   | (with_reducible exact LeO.refl _)
   | (with_reducible exact LeO.none _)
   | (with_reducible refine LeO.ite ?_ ?_)
   | (with_reducible refine LeO.bind ?_ (fun _ => ?_))
   | exact refill_CheckClash.mono _ _ _ _
   | exact refill_Clash.mono _ _
   | exact waterhourlaw04_few.mono _ _ _
   | exact waterhourref04_CheckClash.mono _ _ _ _
   | exact waterhourref04_Clash.mono _ _
   | exact LeO.none _
   | refine LeO.ite ?_ ?_
   | refine LeO.bind ?_ (fun _ => ?_)
set_option maxHeartbeats 8000000 in
set_option maxRecDepth 100000 in
theorem waterhourlaw04_RefillClashes.calls (k : Nat) (A0 : Option Addr) (c0 : Nat) (l0 : List (S51)) (a1 : Int) (a2 : Int) (r : Bool) (w : World) (hr0 : Kd.C k51 w A0 l0.length l0) (hc0 : l0.length ≤ c0) (ht : TabB w) (hrt : Aside0 (r = true)) (h : waterhourlaw04_RefillClashes.f k l0 a1 a2 = some r) :
  Calls Tryd.prog 4 #[.slice A0 l0.length c0, .int .i64 a1, .int .i64 a2] w fun e w' => e = .returned (.bool r) ∧ Below w.heap.size w w' := by
 have HR0 := Aside0.mk hr0
 have HC0 := Aside0.mk hc0
 clear hr0 hc0
 have HT := Aside0.mk ht
 clear ht
 have HB := Aside0.mk (Below.refl w.heap.size w)
 have H : ((law_sane.f).bind fun t357 => (if t357 = true then ((waterhourlaw04_few.f k l0 ([] : List (List Int))).bind fun t358 => (if t358 = true then ((refill_Clash.f k l0).bind fun bt359 => ((waterhourref04_Clash.f k l0).bind fun bt363 => (if bt359.1 = bt363.1 then (if bt359.2.1 = bt363.2.1 then (if (bt359.2.2.1 == bt363.2.2.1) = true then (if bt359.2.2.2 = bt363.2.2.2 then ((refill_CheckClash.f k l0 a1 a2).bind fun t367 => ((waterhourref04_CheckClash.f k l0 a1 a2).bind fun t368 => (some (t367 == t368)))) else (some false)) else (some false)) else (some false)) else (some false)))) else (some true))) else (some false))) = some r := h
 clear h
 replace H := Option.bind_eq_some_iff.mp H
 obtain ⟨t357, A40, H⟩ := H
 replace H : (if t357 = true then ((waterhourlaw04_few.f k l0 ([] : List (List Int))).bind fun t358 => (if t358 = true then ((refill_Clash.f k l0).bind fun bt359 => ((waterhourref04_Clash.f k l0).bind fun bt363 => (if bt359.1 = bt363.1 then (if bt359.2.1 = bt363.2.1 then (if (bt359.2.2.1 == bt363.2.2.1) = true then (if bt359.2.2.2 = bt363.2.2.2 then ((refill_CheckClash.f k l0 a1 a2).bind fun t367 => ((waterhourref04_CheckClash.f k l0 a1 a2).bind fun t368 => (some (t367 == t368)))) else (some false)) else (some false)) else (some false)) else (some false)))) else (some true))) else (some false)) = some r := H
 have A4 := Aside0.mk A40
 clear A40
 by_cases c5 : t357 = true
 ·subst c5
  have H1 : ((waterhourlaw04_few.f k l0 ([] : List (List Int))).bind fun t358 => (if t358 = true then ((refill_Clash.f k l0).bind fun bt359 => ((waterhourref04_Clash.f k l0).bind fun bt363 => (if bt359.1 = bt363.1 then (if bt359.2.1 = bt363.2.1 then (if (bt359.2.2.1 == bt363.2.2.1) = true then (if bt359.2.2.2 = bt363.2.2.2 then ((refill_CheckClash.f k l0 a1 a2).bind fun t367 => ((waterhourref04_CheckClash.f k l0 a1 a2).bind fun t368 => (some (t367 == t368)))) else (some false)) else (some false)) else (some false)) else (some false)))) else (some true))) = some r := by rw [if_pos rfl] at H; exact H
  clear H
  have H := H1
  clear H1
  replace H := Option.bind_eq_some_iff.mp H
  obtain ⟨t358, A60, H⟩ := H
  replace H : (if t358 = true then ((refill_Clash.f k l0).bind fun bt359 => ((waterhourref04_Clash.f k l0).bind fun bt363 => (if bt359.1 = bt363.1 then (if bt359.2.1 = bt363.2.1 then (if (bt359.2.2.1 == bt363.2.2.1) = true then (if bt359.2.2.2 = bt363.2.2.2 then ((refill_CheckClash.f k l0 a1 a2).bind fun t367 => ((waterhourref04_CheckClash.f k l0 a1 a2).bind fun t368 => (some (t367 == t368)))) else (some false)) else (some false)) else (some false)) else (some false)))) else (some true)) = some r := H
  have A6 := Aside0.mk A60
  clear A60
  by_cases c7 : t358 = true
  ·subst c7
   have H1 : ((refill_Clash.f k l0).bind fun bt359 => ((waterhourref04_Clash.f k l0).bind fun bt363 => (if bt359.1 = bt363.1 then (if bt359.2.1 = bt363.2.1 then (if (bt359.2.2.1 == bt363.2.2.1) = true then (if bt359.2.2.2 = bt363.2.2.2 then ((refill_CheckClash.f k l0 a1 a2).bind fun t367 => ((waterhourref04_CheckClash.f k l0 a1 a2).bind fun t368 => (some (t367 == t368)))) else (some false)) else (some false)) else (some false)) else (some false)))) = some r := by rw [if_pos rfl] at H; exact H
   clear H
   have H := H1
   clear H1
   replace H := Option.bind_eq_some_iff.mp H
   obtain ⟨⟨t359, t360, t361, t362⟩, A80, H⟩ := H
   replace H : ((waterhourref04_Clash.f k l0).bind fun bt363 => (if t359 = bt363.1 then (if t360 = bt363.2.1 then (if (t361 == bt363.2.2.1) = true then (if t362 = bt363.2.2.2 then ((refill_CheckClash.f k l0 a1 a2).bind fun t367 => ((waterhourref04_CheckClash.f k l0 a1 a2).bind fun t368 => (some (t367 == t368)))) else (some false)) else (some false)) else (some false)) else (some false))) = some r := H
   have A8 := Aside0.mk A80
   clear A80
   replace H := Option.bind_eq_some_iff.mp H
   obtain ⟨⟨t363, t364, t365, t366⟩, A90, H⟩ := H
   replace H : (if t359 = t363 then (if t360 = t364 then (if (t361 == t365) = true then (if t362 = t366 then ((refill_CheckClash.f k l0 a1 a2).bind fun t367 => ((waterhourref04_CheckClash.f k l0 a1 a2).bind fun t368 => (some (t367 == t368)))) else (some false)) else (some false)) else (some false)) else (some false)) = some r := H
   have A9 := Aside0.mk A90
   clear A90
   by_cases c10 : t359 = t363
   ·rw [if_pos c10] at H
    have c10b0 : (t359 == t363) = true := beq_iff_eq.mpr c10
    have c10b1 : (t359 != t363) = false := bne_eq_false_iff_eq.mpr c10
    clear c10
    by_cases c11 : t360 = t364
    ·rw [if_pos c11] at H
     have c11b0 : (t360 == t364) = true := beq_iff_eq.mpr c11
     have c11b1 : (t360 != t364) = false := bne_eq_false_iff_eq.mpr c11
     clear c11
     by_cases c12 : (t361 == t365) = true
     ·rw [if_pos c12] at H
      have c12b0 : (t361 == t365) = true := c12
      (try (have c12b1 : decide (t361 = t365) = true := by simpa using c12))
      (try (have c12b2 : (t361 == t365) = true := by simpa using c12))
      clear c12
      by_cases c13 : t362 = t366
      ·rw [if_pos c13] at H
       have c13b0 : (t362 == t366) = true := beq_iff_eq.mpr c13
       have c13b1 : (t362 != t366) = false := bne_eq_false_iff_eq.mpr c13
       clear c13
       replace H := Option.bind_eq_some_iff.mp H
       obtain ⟨t367, A140, H⟩ := H
       replace H : ((waterhourref04_CheckClash.f k l0 a1 a2).bind fun t368 => (some (t367 == t368))) = some r := H
       have A14 := Aside0.mk A140
       clear A140
       replace H := Option.bind_eq_some_iff.mp H
       obtain ⟨t368, A150, H⟩ := H
       replace H : (some (t367 == t368)) = some r := H
       have A15 := Aside0.mk A150
       clear A150
       obtain rfl := Option.some.inj H
       go_enter Tryd.func4, Tryd.ntmps4
       go_wp2_with (first | ((with_reducible refine gate_callee (f := 18) rfl ?_); refine goesL_ (some 15) rfl rfl Tryd.func18 (by kernel_rfl) rfl #[] rfl (by (try simp only [List.map_toArray, List.map_cons, List.map_nil]); first | done | rfl | (simp only [List.length_drop, List.length_take]; rfl)) ?_; (with_reducible refine (law_sane.calls  true _ ?side1 A4.out).mono ?_); (case side1 => exact TabB.below HT.out (by repeat (first | (with_reducible first | exact HB.out | apply below_alloc | apply pw_below_drewN | apply below_drew1) | exact HB.out))); rintro e w16 ⟨rfl, hb⟩; refine ⟨_, rfl, ?_⟩; have n0_ := Aside0.mk (below_step (by repeat (first | (with_reducible first | exact HB.out | apply below_alloc | apply pw_below_drewN | apply below_drew1) | exact HB.out)) hb); clear HB; have HB := n0_; clear n0_; (try clear hb); (try clear hb2); (try clear hk); (try clear hi)) | ((with_reducible refine gate_callee (f := 19) rfl ?_); refine goesL_ (some 18) rfl rfl Tryd.func19 (by kernel_rfl) rfl #[.slice A0 l0.length c0, .slice none 0 0] rfl (by (try simp only [List.map_toArray, List.map_cons, List.map_nil]); first | done | rfl | (simp only [List.length_drop, List.length_take]; rfl)) ?_; (refine (waterhourlaw04_few.calls k _ _ l0 _ _ ([] : List (List Int)) true _ ?side1 ?side2 ?side3 ?side4 A6.out).mono ?_); (case side1 => repeat (first | exact (Kd.C_below HR0.out HB.out) | (with_reducible refine Kd.C_alloc ?_ _) | (with_reducible refine Kd.C_drewN ?_ _) | (with_reducible refine Kd.C_drew ?_))); (case side2 => exact HC0.out); (case side3 => exact Kd.C_nil _ _); (case side4 => exact Nat.le_refl _); rintro e w' ⟨rfl, ⟨nd, rfl⟩⟩; refine ⟨_, rfl, ?_⟩) | ((with_reducible refine gate_callee (f := 23) rfl ?_); refine goesL_ (some 22) rfl rfl Tryd.func23 (by kernel_rfl) rfl #[.slice A0 l0.length c0] rfl (by (try simp only [List.map_toArray, List.map_cons, List.map_nil]); first | done | rfl | (simp only [List.length_drop, List.length_take]; rfl)) ?_; (with_reducible refine (refill_Clash.calls k _ _ l0 t359 t360 t361 t362 _ ?side1 ?side2 A8.out).mono ?_); (case side1 => repeat (first | exact (Kd.C_below HR0.out (by repeat (first | (with_reducible first | exact HB.out | apply below_alloc | apply pw_below_drewN | apply below_drew1) | exact HB.out))) | (with_reducible refine Kd.C_alloc ?_ _) | (with_reducible refine Kd.C_drewN ?_ _) | (with_reducible refine Kd.C_drew ?_))); (case side2 => exact HC0.out); rintro e w17 ⟨rfl, hb⟩; refine ⟨_, rfl, ?_⟩; have n0_ := Aside0.mk (below_step (by repeat (first | (with_reducible first | exact HB.out | apply below_alloc | apply pw_below_drewN | apply below_drew1) | exact HB.out)) hb); clear HB; have HB := n0_; clear n0_; (try clear hb); (try clear hb2); (try clear hk); (try clear hi)) | ((with_reducible refine gate_callee (f := 24) rfl ?_); refine goesL_ (some 29) rfl rfl Tryd.func24 (by kernel_rfl) rfl #[.slice A0 l0.length c0] rfl (by (try simp only [List.map_toArray, List.map_cons, List.map_nil]); first | done | rfl | (simp only [List.length_drop, List.length_take]; rfl)) ?_; (with_reducible refine (waterhourref04_Clash.calls k _ _ l0 t363 t364 t365 t366 _ ?side1 ?side2 A9.out).mono ?_); (case side1 => repeat (first | exact (Kd.C_below HR0.out HB.out) | (with_reducible refine Kd.C_alloc ?_ _) | (with_reducible refine Kd.C_drewN ?_ _) | (with_reducible refine Kd.C_drew ?_))); (case side2 => exact HC0.out); rintro e w18 ⟨rfl, hb⟩; refine ⟨_, rfl, ?_⟩; have n0_ := Aside0.mk (below_step (by repeat (first | (with_reducible first | exact HB.out | apply below_alloc | apply pw_below_drewN | apply below_drew1) | exact HB.out)) hb); clear HB; have HB := n0_; clear n0_; (try clear hb); (try clear hb2); (try clear hk); (try clear hi)) | (go_at_call 25; (with_reducible refine (refill_CheckClash.calls k _ _ l0 a1 a2 t367 _ ?side1 ?side2 A14.out).mono ?_); (case side1 => repeat (first | exact (Kd.C_below HR0.out HB.out) | (with_reducible refine Kd.C_alloc ?_ _) | (with_reducible refine Kd.C_drewN ?_ _) | (with_reducible refine Kd.C_drew ?_))); (case side2 => exact HC0.out); rintro e w19 ⟨rfl, hb⟩; have n0_ := Aside0.mk (below_step (by repeat (first | (with_reducible first | exact HB.out | apply below_alloc | apply pw_below_drewN | apply below_drew1) | exact HB.out)) hb); clear HB; have HB := n0_; clear n0_; (try clear hb); (try clear hb2); (try clear hk); (try clear hi)) | (go_at_call 26; (with_reducible refine (waterhourref04_CheckClash.calls k _ _ l0 a1 a2 t368 _ ?side1 ?side2 A15.out).mono ?_); (case side1 => repeat (first | exact (Kd.C_below HR0.out HB.out) | (with_reducible refine Kd.C_alloc ?_ _) | (with_reducible refine Kd.C_drewN ?_ _) | (with_reducible refine Kd.C_drew ?_))); (case side2 => exact HC0.out); rintro e w20 ⟨rfl, hb⟩; have n0_ := Aside0.mk (below_step (by repeat (first | (with_reducible first | exact HB.out | apply below_alloc | apply pw_below_drewN | apply below_drew1) | exact HB.out)) hb); clear HB; have HB := n0_; clear n0_; (try clear hb); (try clear hb2); (try clear hk); (try clear hi)))
       go_ret
       exact ⟨by first | rfl | (simp [errW_none, errW_some] <;> rfl) | (simp [*, errW_none, errW_some] <;> rfl), by repeat (first | (with_reducible first | exact HB.out | apply below_alloc | apply pw_below_drewN | apply below_drew1) | exact HB.out)⟩
      ·rw [if_neg c13] at H
       have c13b0 : (t362 == t366) = false := beq_eq_false_iff_ne.mpr c13
       have c13b1 : (t362 != t366) = true := bne_iff_ne.mpr c13
       exact absurd (H.trans (congrArg some hrt.out)) (by simp)
     ·rw [if_neg c12] at H
      have c12b0 : (t361 == t365) = false := by simpa using c12
      (try (have c12b1 : decide (t361 = t365) = false := by simpa using c12))
      (try (have c12b2 : (t361 == t365) = false := by simpa using c12))
      (try (have c12b3 : ¬ (t361 = t365) := by simpa using c12))
      clear c12
      exact absurd (H.trans (congrArg some hrt.out)) (by simp)
    ·rw [if_neg c11] at H
     have c11b0 : (t360 == t364) = false := beq_eq_false_iff_ne.mpr c11
     have c11b1 : (t360 != t364) = true := bne_iff_ne.mpr c11
     exact absurd (H.trans (congrArg some hrt.out)) (by simp)
   ·rw [if_neg c10] at H
    have c10b0 : (t359 == t363) = false := beq_eq_false_iff_ne.mpr c10
    have c10b1 : (t359 != t363) = true := bne_iff_ne.mpr c10
    exact absurd (H.trans (congrArg some hrt.out)) (by simp)
  ·replace c7 := Bool.eq_false_iff.mpr c7
   subst c7
   have H1 : (some true) = some r := by rw [if_neg (show ¬ (false = true) by decide)] at H; exact H
   clear H
   have H := H1
   clear H1
   obtain rfl := Option.some.inj H
   go_enter Tryd.func4, Tryd.ntmps4
   go_wp2_with (first | ((with_reducible refine gate_callee (f := 18) rfl ?_); refine goesL_ (some 15) rfl rfl Tryd.func18 (by kernel_rfl) rfl #[] rfl (by (try simp only [List.map_toArray, List.map_cons, List.map_nil]); first | done | rfl | (simp only [List.length_drop, List.length_take]; rfl)) ?_; (with_reducible refine (law_sane.calls  true _ ?side1 A4.out).mono ?_); (case side1 => exact TabB.below HT.out (by repeat (first | (with_reducible first | exact HB.out | apply below_alloc | apply pw_below_drewN | apply below_drew1) | exact HB.out))); rintro e w21 ⟨rfl, hb⟩; refine ⟨_, rfl, ?_⟩; have n0_ := Aside0.mk (below_step (by repeat (first | (with_reducible first | exact HB.out | apply below_alloc | apply pw_below_drewN | apply below_drew1) | exact HB.out)) hb); clear HB; have HB := n0_; clear n0_; (try clear hb); (try clear hb2); (try clear hk); (try clear hi)) | ((with_reducible refine gate_callee (f := 19) rfl ?_); refine goesL_ (some 18) rfl rfl Tryd.func19 (by kernel_rfl) rfl #[.slice A0 l0.length c0, .slice none 0 0] rfl (by (try simp only [List.map_toArray, List.map_cons, List.map_nil]); first | done | rfl | (simp only [List.length_drop, List.length_take]; rfl)) ?_; (refine (waterhourlaw04_few.calls k _ _ l0 _ _ ([] : List (List Int)) false _ ?side1 ?side2 ?side3 ?side4 A6.out).mono ?_); (case side1 => repeat (first | exact (Kd.C_below HR0.out HB.out) | (with_reducible refine Kd.C_alloc ?_ _) | (with_reducible refine Kd.C_drewN ?_ _) | (with_reducible refine Kd.C_drew ?_))); (case side2 => exact HC0.out); (case side3 => exact Kd.C_nil _ _); (case side4 => exact Nat.le_refl _); rintro e w' ⟨rfl, ⟨nd, rfl⟩⟩; refine ⟨_, rfl, ?_⟩))
   go_ret
   exact ⟨by first | rfl | (simp [errW_none, errW_some] <;> rfl) | (simp [*, errW_none, errW_some] <;> rfl), by repeat (first | (with_reducible first | exact HB.out | apply below_alloc | apply pw_below_drewN | apply below_drew1) | exact HB.out)⟩
 ·replace c5 := Bool.eq_false_iff.mpr c5
  subst c5
  have H1 : (some false) = some r := by rw [if_neg (show ¬ (false = true) by decide)] at H; exact H
  clear H
  have H := H1
  clear H1
  exact absurd (H.trans (congrArg some hrt.out)) (by simp)

end Go.Proofs.YtgiihjcpgjpkcaaDoor.Q
