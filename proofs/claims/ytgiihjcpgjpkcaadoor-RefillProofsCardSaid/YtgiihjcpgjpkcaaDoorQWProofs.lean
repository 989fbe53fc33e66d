/- Contracts of functions of the given program: each Go function as a plain Lean function (name.f) and the proof that its call answers just so, for every reading of its arguments. Written by the session's program wip/xprint.py out of the translation. -/
import Derived.Test.YtgiihjcpgjpkcaaDoorQ0
import Derived.Test.YtgiihjcpgjpkcaaDoorQG
import Derived.Test.YtgiihjcpgjpkcaaDoorQI
import Derived.Test.YtgiihjcpgjpkcaaDoorQK
import Derived.Test.YtgiihjcpgjpkcaaDoorQL
import Derived.Test.YtgiihjcpgjpkcaaDoorHProof
import Derived.Test.YtgiihjcpgjpkcaaDoorHSane
namespace Go.Proofs.YtgiihjcpgjpkcaaDoor.Q
open Go.RowKit Go.Proofs.YtgiihjcpgjpkcaaDoorW.PrintWords Go.Proofs.YtgiihjcpgjpkcaaDoorW.PrintLast Go.Proofs.YtgiihjcpgjpkcaaDoorW.PrintMore
attribute [local go_sem] max2_int min2_int max_two min_two max_three min_three max_four min_four   -- for this text's walks alone
set_option linter.unusedVariables false
set_option linter.unusedSimpArgs false

/-! ### waterhourlaw04_RefillProofs: function 5 -/
def waterhourlaw04_RefillProofs.f (k : Nat) (l0 : List (S51)) (a1 : Int) (a2 : Bool) (a3 : Int) (a4 : Int) : Option (Bool) := (law_sane.f).bind fun t385 => (if t385 = true then ((waterhourlaw04_few.f k l0 ([] : List (List Int))).bind fun t386 => (if t386 = true then ((refill_Proof.f l0 a1 a2).bind fun bt387 => ((waterhourref04_Proof.f k l0 a1 a2).bind fun bt389 => (if bt387.1 = bt389.1 then (if bt387.2 = bt389.2 then ((refill_CheckProof.f k l0 a1 a2 a3 a4).bind fun t391 => ((waterhourref04_CheckProof.f k l0 a1 a2 a3 a4).bind fun t392 => (some (t391 == t392)))) else (some false)) else (some false)))) else (some true))) else (some false))
theorem waterhourlaw04_RefillProofs.mono : ∀ a0 a1 a2 a3 a4 k, LeO (waterhourlaw04_RefillProofs.f k a0 a1 a2 a3 a4) (waterhourlaw04_RefillProofs.f (k + 1) a0 a1 a2 a3 a4) := by
 intro a0 a1 a2 a3 a4 k
 unfold waterhourlaw04_RefillProofs.f
 repeat' first
   | (with_reducible exact refill_CheckProof.mono _ _ _ _ _ _)
   | (with_reducible exact waterhourlaw04_few.mono _ _ _)
   | (with_reducible exact waterhourref04_CheckProof.mono _ _ _ _ _ _)
   | (with_reducible exact waterhourref04_Proof.mono _ _ _ _)
   | (with_reducible exact LeO.refl _)
   | (with_reducible exact LeO.none _)
   | (with_reducible refine LeO.ite ?_ ?_)
   | (with_reducible refine LeO.bind ?_ (fun _ => ?_))
   | exact refill_CheckProof.mono _ _ _ _ _ _
   | exact waterhourlaw04_few.mono _ _ _
   | exact waterhourref04_CheckProof.mono _ _ _ _ _ _
   | exact waterhourref04_Proof.mono _ _ _ _
   | exact LeO.none _
   | refine LeO.ite ?_ ?_
   | refine LeO.bind ?_ (fun _ => ?_)
set_option maxHeartbeats 8000000 in
set_option maxRecDepth 100000 in
theorem waterhourlaw04_RefillProofs.calls (k : Nat) (A0 : Option Addr) (c0 : Nat) (l0 : List (S51)) (a1 : Int) (a2 : Bool) (a3 : Int) (a4 : Int) (r : Bool) (w : World) (hr0 : Kd.C k51 w A0 l0.length l0) (hc0 : l0.length ≤ c0) (ht : TabB w) (hrt : Aside0 (r = true)) (h : waterhourlaw04_RefillProofs.f k l0 a1 a2 a3 a4 = some r) :
  Calls Tryd.prog 5 #[.slice A0 l0.length c0, .int .i64 a1, .bool a2, .int .i64 a3, .int .i64 a4] w fun e w' => e = .returned (.bool r) ∧ Below w.heap.size w w' := by
 have HR0 := Aside0.mk hr0
 have HC0 := Aside0.mk hc0
 clear hr0 hc0
 have HT := Aside0.mk ht
 clear ht
 have HB := Aside0.mk (Below.refl w.heap.size w)
 have H : ((law_sane.f).bind fun t385 => (if t385 = true then ((waterhourlaw04_few.f k l0 ([] : List (List Int))).bind fun t386 => (if t386 = true then ((refill_Proof.f l0 a1 a2).bind fun bt387 => ((waterhourref04_Proof.f k l0 a1 a2).bind fun bt389 => (if bt387.1 = bt389.1 then (if bt387.2 = bt389.2 then ((refill_CheckProof.f k l0 a1 a2 a3 a4).bind fun t391 => ((waterhourref04_CheckProof.f k l0 a1 a2 a3 a4).bind fun t392 => (some (t391 == t392)))) else (some false)) else (some false)))) else (some true))) else (some false))) = some r := h
 clear h
 replace H := Option.bind_eq_some_iff.mp H
 obtain ⟨t385, A60, H⟩ := H
 replace H : (if t385 = true then ((waterhourlaw04_few.f k l0 ([] : List (List Int))).bind fun t386 => (if t386 = true then ((refill_Proof.f l0 a1 a2).bind fun bt387 => ((waterhourref04_Proof.f k l0 a1 a2).bind fun bt389 => (if bt387.1 = bt389.1 then (if bt387.2 = bt389.2 then ((refill_CheckProof.f k l0 a1 a2 a3 a4).bind fun t391 => ((waterhourref04_CheckProof.f k l0 a1 a2 a3 a4).bind fun t392 => (some (t391 == t392)))) else (some false)) else (some false)))) else (some true))) else (some false)) = some r := H
 have A6 := Aside0.mk A60
 clear A60
 by_cases c7 : t385 = true
 ·subst c7
  have H1 : ((waterhourlaw04_few.f k l0 ([] : List (List Int))).bind fun t386 => (if t386 = true then ((refill_Proof.f l0 a1 a2).bind fun bt387 => ((waterhourref04_Proof.f k l0 a1 a2).bind fun bt389 => (if bt387.1 = bt389.1 then (if bt387.2 = bt389.2 then ((refill_CheckProof.f k l0 a1 a2 a3 a4).bind fun t391 => ((waterhourref04_CheckProof.f k l0 a1 a2 a3 a4).bind fun t392 => (some (t391 == t392)))) else (some false)) else (some false)))) else (some true))) = some r := by rw [if_pos rfl] at H; exact H
  clear H
  have H := H1
  clear H1
  replace H := Option.bind_eq_some_iff.mp H
  obtain ⟨t386, A80, H⟩ := H
  replace H : (if t386 = true then ((refill_Proof.f l0 a1 a2).bind fun bt387 => ((waterhourref04_Proof.f k l0 a1 a2).bind fun bt389 => (if bt387.1 = bt389.1 then (if bt387.2 = bt389.2 then ((refill_CheckProof.f k l0 a1 a2 a3 a4).bind fun t391 => ((waterhourref04_CheckProof.f k l0 a1 a2 a3 a4).bind fun t392 => (some (t391 == t392)))) else (some false)) else (some false)))) else (some true)) = some r := H
  have A8 := Aside0.mk A80
  clear A80
  by_cases c9 : t386 = true
  ·subst c9
   have H1 : ((refill_Proof.f l0 a1 a2).bind fun bt387 => ((waterhourref04_Proof.f k l0 a1 a2).bind fun bt389 => (if bt387.1 = bt389.1 then (if bt387.2 = bt389.2 then ((refill_CheckProof.f k l0 a1 a2 a3 a4).bind fun t391 => ((waterhourref04_CheckProof.f k l0 a1 a2 a3 a4).bind fun t392 => (some (t391 == t392)))) else (some false)) else (some false)))) = some r := by rw [if_pos rfl] at H; exact H
   clear H
   have H := H1
   clear H1
   replace H := Option.bind_eq_some_iff.mp H
   obtain ⟨⟨t387, t388⟩, A100, H⟩ := H
   replace H : ((waterhourref04_Proof.f k l0 a1 a2).bind fun bt389 => (if t387 = bt389.1 then (if t388 = bt389.2 then ((refill_CheckProof.f k l0 a1 a2 a3 a4).bind fun t391 => ((waterhourref04_CheckProof.f k l0 a1 a2 a3 a4).bind fun t392 => (some (t391 == t392)))) else (some false)) else (some false))) = some r := H
   have A10 := Aside0.mk A100
   clear A100
   replace H := Option.bind_eq_some_iff.mp H
   obtain ⟨⟨t389, t390⟩, A110, H⟩ := H
   replace H : (if t387 = t389 then (if t388 = t390 then ((refill_CheckProof.f k l0 a1 a2 a3 a4).bind fun t391 => ((waterhourref04_CheckProof.f k l0 a1 a2 a3 a4).bind fun t392 => (some (t391 == t392)))) else (some false)) else (some false)) = some r := H
   have A11 := Aside0.mk A110
   clear A110
   by_cases c12 : t387 = t389
   ·rw [if_pos c12] at H
    have c12b0 : (t387 == t389) = true := beq_iff_eq.mpr c12
    have c12b1 : (t387 != t389) = false := bne_eq_false_iff_eq.mpr c12
    clear c12
    by_cases c13 : t388 = t390
    ·rw [if_pos c13] at H
     have c13b0 : (t388 == t390) = true := beq_iff_eq.mpr c13
     have c13b1 : (t388 != t390) = false := bne_eq_false_iff_eq.mpr c13
     clear c13
     replace H := Option.bind_eq_some_iff.mp H
     obtain ⟨t391, A140, H⟩ := H
     replace H : ((waterhourref04_CheckProof.f k l0 a1 a2 a3 a4).bind fun t392 => (some (t391 == t392))) = some r := H
     have A14 := Aside0.mk A140
     clear A140
     replace H := Option.bind_eq_some_iff.mp H
     obtain ⟨t392, A150, H⟩ := H
     replace H : (some (t391 == t392)) = some r := H
     have A15 := Aside0.mk A150
     clear A150
     obtain rfl := Option.some.inj H
     go_enter Tryd.func5, Tryd.ntmps5
     go_wp2_with (first | ((with_reducible refine gate_callee (f := 18) rfl ?_); refine goesL_ (some 15) rfl rfl Tryd.func18 (by kernel_rfl) rfl #[] rfl (by (try simp only [List.map_toArray, List.map_cons, List.map_nil]); first | done | rfl | (simp only [List.length_drop, List.length_take]; rfl)) ?_; (with_reducible refine (law_sane.calls  true _ ?side1 A6.out).mono ?_); (case side1 => exact TabB.below HT.out (by repeat (first | (with_reducible first | exact HB.out | apply below_alloc | apply pw_below_drewN | apply below_drew1) | exact HB.out))); rintro e w16 ⟨rfl, hb⟩; refine ⟨_, rfl, ?_⟩; have n0_ := Aside0.mk (below_step (by repeat (first | (with_reducible first | exact HB.out | apply below_alloc | apply pw_below_drewN | apply below_drew1) | exact HB.out)) hb); clear HB; have HB := n0_; clear n0_; (try clear hb); (try clear hb2); (try clear hk); (try clear hi)) | ((with_reducible refine gate_callee (f := 19) rfl ?_); refine goesL_ (some 18) rfl rfl Tryd.func19 (by kernel_rfl) rfl #[.slice A0 l0.length c0, .slice none 0 0] rfl (by (try simp only [List.map_toArray, List.map_cons, List.map_nil]); first | done | rfl | (simp only [List.length_drop, List.length_take]; rfl)) ?_; (refine (waterhourlaw04_few.calls k _ _ l0 _ _ ([] : List (List Int)) true _ ?side1 ?side2 ?side3 ?side4 A8.out).mono ?_); (case side1 => repeat (first | exact (Kd.C_below HR0.out HB.out) | (with_reducible refine Kd.C_alloc ?_ _) | (with_reducible refine Kd.C_drewN ?_ _) | (with_reducible refine Kd.C_drew ?_))); (case side2 => exact HC0.out); (case side3 => exact Kd.C_nil _ _); (case side4 => exact Nat.le_refl _); rintro e w' ⟨rfl, ⟨nd, rfl⟩⟩; refine ⟨_, rfl, ?_⟩) | ((with_reducible refine gate_callee (f := 27) rfl ?_); refine goesL_ (some 24) rfl rfl Tryd.func27 (by kernel_rfl) rfl #[.slice A0 l0.length c0, .int .i64 a1, .bool a2] rfl (by (try simp only [List.map_toArray, List.map_cons, List.map_nil]); first | done | rfl | (simp only [List.length_drop, List.length_take]; rfl)) ?_; (with_reducible refine (refill_Proof.calls _ _ l0 a1 a2 t387 t388 _ ?side1 ?side2 A10.out).mono ?_); (case side1 => repeat (first | exact (Kd.C_below HR0.out (by repeat (first | (with_reducible first | exact HB.out | apply below_alloc | apply pw_below_drewN | apply below_drew1) | exact HB.out))) | (with_reducible refine Kd.C_alloc ?_ _) | (with_reducible refine Kd.C_drewN ?_ _) | (with_reducible refine Kd.C_drew ?_))); (case side2 => exact HC0.out); rintro e w17 ⟨rfl, hb⟩; refine ⟨_, rfl, ?_⟩; have n0_ := Aside0.mk (below_step (by repeat (first | (with_reducible first | exact HB.out | apply below_alloc | apply pw_below_drewN | apply below_drew1) | exact HB.out)) hb); clear HB; have HB := n0_; clear n0_; (try clear hb); (try clear hb2); (try clear hk); (try clear hi)) | ((with_reducible refine gate_callee (f := 28) rfl ?_); refine goesL_ (some 31) rfl rfl Tryd.func28 (by kernel_rfl) rfl #[.slice A0 l0.length c0, .int .i64 a1, .bool a2] rfl (by (try simp only [List.map_toArray, List.map_cons, List.map_nil]); first | done | rfl | (simp only [List.length_drop, List.length_take]; rfl)) ?_; (with_reducible refine (waterhourref04_Proof.calls k _ _ l0 a1 a2 t389 t390 _ ?side1 ?side2 A11.out).mono ?_); (case side1 => repeat (first | exact (Kd.C_below HR0.out HB.out) | (with_reducible refine Kd.C_alloc ?_ _) | (with_reducible refine Kd.C_drewN ?_ _) | (with_reducible refine Kd.C_drew ?_))); (case side2 => exact HC0.out); rintro e w18 ⟨rfl, hb⟩; refine ⟨_, rfl, ?_⟩; have n0_ := Aside0.mk (below_step (by repeat (first | (with_reducible first | exact HB.out | apply below_alloc | apply pw_below_drewN | apply below_drew1) | exact HB.out)) hb); clear HB; have HB := n0_; clear n0_; (try clear hb); (try clear hb2); (try clear hk); (try clear hi)) | (go_at_call 29; (with_reducible refine (refill_CheckProof.calls k _ _ l0 a1 a2 a3 a4 t391 _ ?side1 ?side2 A14.out).mono ?_); (case side1 => repeat (first | exact (Kd.C_below HR0.out HB.out) | (with_reducible refine Kd.C_alloc ?_ _) | (with_reducible refine Kd.C_drewN ?_ _) | (with_reducible refine Kd.C_drew ?_))); (case side2 => exact HC0.out); rintro e w19 ⟨rfl, hb⟩; have n0_ := Aside0.mk (below_step (by repeat (first | (with_reducible first | exact HB.out | apply below_alloc | apply pw_below_drewN | apply below_drew1) | exact HB.out)) hb); clear HB; have HB := n0_; clear n0_; (try clear hb); (try clear hb2); (try clear hk); (try clear hi)) | (go_at_call 30; (with_reducible refine (waterhourref04_CheckProof.calls k _ _ l0 a1 a2 a3 a4 t392 _ ?side1 ?side2 A15.out).mono ?_); (case side1 => repeat (first | exact (Kd.C_below HR0.out HB.out) | (with_reducible refine Kd.C_alloc ?_ _) | (with_reducible refine Kd.C_drewN ?_ _) | (with_reducible refine Kd.C_drew ?_))); (case side2 => exact HC0.out); rintro e w20 ⟨rfl, hb⟩; have n0_ := Aside0.mk (below_step (by repeat (first | (with_reducible first | exact HB.out | apply below_alloc | apply pw_below_drewN | apply below_drew1) | exact HB.out)) hb); clear HB; have HB := n0_; clear n0_; (try clear hb); (try clear hb2); (try clear hk); (try clear hi)))
     go_ret
     exact ⟨by first | rfl | (simp [errW_none, errW_some] <;> rfl) | (simp [*, errW_none, errW_some] <;> rfl), by repeat (first | (with_reducible first | exact HB.out | apply below_alloc | apply pw_below_drewN | apply below_drew1) | exact HB.out)⟩
    ·rw [if_neg c13] at H
     have c13b0 : (t388 == t390) = false := beq_eq_false_iff_ne.mpr c13
     have c13b1 : (t388 != t390) = true := bne_iff_ne.mpr c13
     exact absurd (H.trans (congrArg some hrt.out)) (by simp)
   ·rw [if_neg c12] at H
    have c12b0 : (t387 == t389) = false := beq_eq_false_iff_ne.mpr c12
    have c12b1 : (t387 != t389) = true := bne_iff_ne.mpr c12
    exact absurd (H.trans (congrArg some hrt.out)) (by simp)
  ·replace c9 := Bool.eq_false_iff.mpr c9
   subst c9
   have H1 : (some true) = some r := by rw [if_neg (show ¬ (false = true) by decide)] at H; exact H
   clear H
   have H := H1
   clear H1
   obtain rfl := Option.some.inj H
   go_enter Tryd.func5, Tryd.ntmps5
   go_wp2_with (first | ((with_reducible refine gate_callee (f := 18) rfl ?_); refine goesL_ (some 15) rfl rfl Tryd.func18 (by kernel_rfl) rfl #[] rfl (by (try simp only [List.map_toArray, List.map_cons, List.map_nil]); first | done | rfl | (simp only [List.length_drop, List.length_take]; rfl)) ?_; (with_reducible refine (law_sane.calls  true _ ?side1 A6.out).mono ?_); (case side1 => exact TabB.below HT.out (by repeat (first | (with_reducible first | exact HB.out | apply below_alloc | apply pw_below_drewN | apply below_drew1) | exact HB.out))); rintro e w21 ⟨rfl, hb⟩; refine ⟨_, rfl, ?_⟩; have n0_ := Aside0.mk (below_step (by repeat (first | (with_reducible first | exact HB.out | apply below_alloc | apply pw_below_drewN | apply below_drew1) | exact HB.out)) hb); clear HB; have HB := n0_; clear n0_; (try clear hb); (try clear hb2); (try clear hk); (try clear hi)) | ((with_reducible refine gate_callee (f := 19) rfl ?_); refine goesL_ (some 18) rfl rfl Tryd.func19 (by kernel_rfl) rfl #[.slice A0 l0.length c0, .slice none 0 0] rfl (by (try simp only [List.map_toArray, List.map_cons, List.map_nil]); first | done | rfl | (simp only [List.length_drop, List.length_take]; rfl)) ?_; (refine (waterhourlaw04_few.calls k _ _ l0 _ _ ([] : List (List Int)) false _ ?side1 ?side2 ?side3 ?side4 A8.out).mono ?_); (case side1 => repeat (first | exact (Kd.C_below HR0.out HB.out) | (with_reducible refine Kd.C_alloc ?_ _) | (with_reducible refine Kd.C_drewN ?_ _) | (with_reducible refine Kd.C_drew ?_))); (case side2 => exact HC0.out); (case side3 => exact Kd.C_nil _ _); (case side4 => exact Nat.le_refl _); rintro e w' ⟨rfl, ⟨nd, rfl⟩⟩; refine ⟨_, rfl, ?_⟩))
   go_ret
   exact ⟨by first | rfl | (simp [errW_none, errW_some] <;> rfl) | (simp [*, errW_none, errW_some] <;> rfl), by repeat (first | (with_reducible first | exact HB.out | apply below_alloc | apply pw_below_drewN | apply below_drew1) | exact HB.out)⟩
 ·replace c7 := Bool.eq_false_iff.mpr c7
  subst c7
  have H1 : (some false) = some r := by rw [if_neg (show ¬ (false = true) by decide)] at H; exact H
  clear H
  have H := H1
  clear H1
  exact absurd (H.trans (congrArg some hrt.out)) (by simp)

end Go.Proofs.YtgiihjcpgjpkcaaDoor.Q
