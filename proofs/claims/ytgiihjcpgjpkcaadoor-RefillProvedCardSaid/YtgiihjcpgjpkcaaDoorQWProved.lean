/- Contracts of functions of the given program: each Go function as a plain Lean function (name.f) and the proof that its call answers just so, for every reading of its arguments. Written by the session's program wip/xprint.py out of the translation. -/
import Derived.Test.YtgiihjcpgjpkcaaDoorQ0
import Derived.Test.YtgiihjcpgjpkcaaDoorQC
import Derived.Test.YtgiihjcpgjpkcaaDoorQG
import Derived.Test.YtgiihjcpgjpkcaaDoorQO
import Derived.Test.YtgiihjcpgjpkcaaDoorHProof
import Derived.Test.YtgiihjcpgjpkcaaDoorHSane
namespace Go.Proofs.YtgiihjcpgjpkcaaDoor.Q
open Go.RowKit Go.Proofs.YtgiihjcpgjpkcaaDoorW.PrintWords Go.Proofs.YtgiihjcpgjpkcaaDoorW.PrintLast Go.Proofs.YtgiihjcpgjpkcaaDoorW.PrintMore
attribute [local go_sem] max2_int min2_int max_two min_two max_three min_three max_four min_four   -- for this text's walks alone
set_option linter.unusedVariables false
set_option linter.unusedSimpArgs false

/-! ### waterhourlaw04_RefillProved: function 10 -/
mutual
def waterhourlaw04_RefillProved.j0 : Nat → List (S51) → Int → Int → Int → Bool → Option (Bool)
 | 0, _, _, _, _, _ => none
 | k + 1, x0, x1, x2, x3, x25 => if x25 = true then (some true) else ((refill_Time.f k x0 x1).bind fun bt603 => ((refill_Proof.f x0 x1 false).bind fun bt607 => ((refill_Proof.f x0 x1 true).bind fun bt609 => (if bt603.2.2 = 31 then (if bt607.2 = 31 then (some (bt609.2 == 31)) else (some false)) else (if bt603.2.2 = 0 then (if bt607.2 = 0 then (if bt609.2 = 0 then ((refill_CheckProof.f k x0 x1 false bt603.1 bt607.1).bind fun t611 => (if t611 = 0 then ((refill_CheckProof.f k x0 x1 true bt603.2.1 bt609.1).bind fun t612 => (waterhourlaw04_RefillProved.j1 k x0 x1 x2 x3 (t612 != 0) bt603.1 bt603.2.1)) else (waterhourlaw04_RefillProved.j1 k x0 x1 x2 x3 true bt603.1 bt603.2.1))) else (waterhourlaw04_RefillProved.j1 k x0 x1 x2 x3 true bt603.1 bt603.2.1)) else (waterhourlaw04_RefillProved.j1 k x0 x1 x2 x3 true bt603.1 bt603.2.1)) else (waterhourlaw04_RefillProved.j1 k x0 x1 x2 x3 true bt603.1 bt603.2.1))))))
def waterhourlaw04_RefillProved.j1 : Nat → List (S51) → Int → Int → Int → Bool → Int → Int → Option (Bool)
 | 0, _, _, _, _, _, _, _ => none
 | k + 1, x0, x1, x2, x3, x79, x607000, x607001 => if x79 = true then (some false) else (if x2 > x607000 then ((refill_CheckProof.f k x0 x1 false x2 x3).bind fun t613 => (if t613 = 0 then (some false) else (if x2 ≥ x607001 then (some true) else ((refill_CheckProof.f k x0 x1 true x2 x3).bind fun t614 => (some (t614 != 0)))))) else (if x2 ≥ x607001 then (some true) else ((refill_CheckProof.f k x0 x1 true x2 x3).bind fun t615 => (some (t615 != 0)))))
end
def waterhourlaw04_RefillProved.f (k : Nat) (l0 : List (S51)) (a1 : Int) (a2 : Int) (a3 : Int) : Option (Bool) := (law_sane.f).bind fun t600 => (if t600 = true then ((waterhourref04_Valid.f k l0).bind fun t601 => (if t601 = true then ((waterhourref04_Event.f l0 a1 0).bind fun t602 => (waterhourlaw04_RefillProved.j0 k l0 a1 a2 a3 (!t602))) else (waterhourlaw04_RefillProved.j0 k l0 a1 a2 a3 true))) else (some false))
theorem waterhourlaw04_RefillProved.mono_l : ∀ k, (∀ y0 y1 y2 y3 y4, LeO (waterhourlaw04_RefillProved.j0 k y0 y1 y2 y3 y4) (waterhourlaw04_RefillProved.j0 (k + 1) y0 y1 y2 y3 y4)) ∧ (∀ y0 y1 y2 y3 y4 y5 y6, LeO (waterhourlaw04_RefillProved.j1 k y0 y1 y2 y3 y4 y5 y6) (waterhourlaw04_RefillProved.j1 (k + 1) y0 y1 y2 y3 y4 y5 y6))
 | 0 => ⟨fun _ _ _ _ _ r h => by simp [waterhourlaw04_RefillProved.j0] at h, fun _ _ _ _ _ _ _ r h => by simp [waterhourlaw04_RefillProved.j1] at h⟩
 | k + 1 => by
  obtain ⟨ih0, ih1⟩ := waterhourlaw04_RefillProved.mono_l k
  refine ⟨?_, ?_⟩
  ·intro y0 y1 y2 y3 y4
   unfold waterhourlaw04_RefillProved.j0
   repeat' first
   | (with_reducible exact ih0 _ _ _ _ _)
   | (with_reducible exact ih1 _ _ _ _ _ _ _)
   | (with_reducible exact refill_CheckProof.mono _ _ _ _ _ _)
   | (with_reducible exact refill_Time.mono _ _ _)
   | (with_reducible exact waterhourref04_Valid.mono _ _)
   | (with_reducible exact LeO.refl _)
   | (with_reducible exact LeO.none _)
   | (with_reducible refine LeO.ite ?_ ?_)
   | (with_reducible refine LeO.bind ?_ (fun _ => ?_))
   | exact ih0 _ _ _ _ _
   | exact ih1 _ _ _ _ _ _ _
   | exact refill_CheckProof.mono _ _ _ _ _ _
   | exact refill_Time.mono _ _ _
   | exact waterhourref04_Valid.mono _ _
   | exact LeO.none _
   | refine LeO.ite ?_ ?_
   | refine LeO.bind ?_ (fun _ => ?_)
  ·intro y0 y1 y2 y3 y4 y5 y6
   unfold waterhourlaw04_RefillProved.j1
   repeat' first
   | (with_reducible exact ih0 _ _ _ _ _)
   | (with_reducible exact ih1 _ _ _ _ _ _ _)
   | (with_reducible exact refill_CheckProof.mono _ _ _ _ _ _)
   | (with_reducible exact refill_Time.mono _ _ _)
   | (with_reducible exact waterhourref04_Valid.mono _ _)
   | (with_reducible exact LeO.refl _)
   | (with_reducible exact LeO.none _)
   | (with_reducible refine LeO.ite ?_ ?_)
   | (with_reducible refine LeO.bind ?_ (fun _ => ?_))
   | exact ih0 _ _ _ _ _
   | exact ih1 _ _ _ _ _ _ _
   | exact refill_CheckProof.mono _ _ _ _ _ _
   | exact refill_Time.mono _ _ _
   | exact waterhourref04_Valid.mono _ _
   | exact LeO.none _
   | refine LeO.ite ?_ ?_
   | refine LeO.bind ?_ (fun _ => ?_)
theorem waterhourlaw04_RefillProved.mono : ∀ a0 a1 a2 a3 k, LeO (waterhourlaw04_RefillProved.f k a0 a1 a2 a3) (waterhourlaw04_RefillProved.f (k + 1) a0 a1 a2 a3) := by
 intro a0 a1 a2 a3 k
 obtain ⟨ih0, ih1⟩ := waterhourlaw04_RefillProved.mono_l k
 unfold waterhourlaw04_RefillProved.f
 repeat' first
   | (with_reducible exact ih0 _ _ _ _ _)
   | (with_reducible exact ih1 _ _ _ _ _ _ _)
   | (with_reducible exact refill_CheckProof.mono _ _ _ _ _ _)
   | (with_reducible exact refill_Time.mono _ _ _)
   | (with_reducible exact waterhourref04_Valid.mono _ _)
   | (with_reducible exact LeO.refl _)
   | (with_reducible exact LeO.none _)
   | (with_reducible refine LeO.ite ?_ ?_)
   | (with_reducible refine LeO.bind ?_ (fun _ => ?_))
   | exact ih0 _ _ _ _ _
   | exact ih1 _ _ _ _ _ _ _
   | exact refill_CheckProof.mono _ _ _ _ _ _
   | exact refill_Time.mono _ _ _
   | exact waterhourref04_Valid.mono _ _
   | exact LeO.none _
   | refine LeO.ite ?_ ?_
   | refine LeO.bind ?_ (fun _ => ?_)
set_option maxHeartbeats 8000000 in
set_option maxRecDepth 100000 in
theorem waterhourlaw04_RefillProved.calls (k : Nat) (A0 : Option Addr) (c0 : Nat) (l0 : List (S51)) (a1 : Int) (a2 : Int) (a3 : Int) (r : Bool) (w : World) (hr0 : Kd.C k51 w A0 l0.length l0) (hc0 : l0.length ≤ c0) (ht : TabB w) (hrt : Aside0 (r = true)) (h : waterhourlaw04_RefillProved.f k l0 a1 a2 a3 = some r) :
  Calls Tryd.prog 10 #[.slice A0 l0.length c0, .int .i64 a1, .int .i64 a2, .int .i64 a3] w fun e w' => e = .returned (.bool r) ∧ Below w.heap.size w w' := by
 have hu49 := Tryd.underlying49
 have HR0 := Aside0.mk hr0
 have HC0 := Aside0.mk hc0
 clear hr0 hc0
 have HT := Aside0.mk ht
 clear ht
 have HB := Aside0.mk (Below.refl w.heap.size w)
 have H : ((law_sane.f).bind fun t600 => (if t600 = true then ((waterhourref04_Valid.f k l0).bind fun t601 => (if t601 = true then ((waterhourref04_Event.f l0 a1 0).bind fun t602 => (waterhourlaw04_RefillProved.j0 k l0 a1 a2 a3 (!t602))) else (waterhourlaw04_RefillProved.j0 k l0 a1 a2 a3 true))) else (some false))) = some r := h
 clear h
 replace H := Option.bind_eq_some_iff.mp H
 obtain ⟨t600, A50, H⟩ := H
 replace H : (if t600 = true then ((waterhourref04_Valid.f k l0).bind fun t601 => (if t601 = true then ((waterhourref04_Event.f l0 a1 0).bind fun t602 => (waterhourlaw04_RefillProved.j0 k l0 a1 a2 a3 (!t602))) else (waterhourlaw04_RefillProved.j0 k l0 a1 a2 a3 true))) else (some false)) = some r := H
 have A5 := Aside0.mk A50
 clear A50
 by_cases c6 : t600 = true
 ·subst c6
  have H1 : ((waterhourref04_Valid.f k l0).bind fun t601 => (if t601 = true then ((waterhourref04_Event.f l0 a1 0).bind fun t602 => (waterhourlaw04_RefillProved.j0 k l0 a1 a2 a3 (!t602))) else (waterhourlaw04_RefillProved.j0 k l0 a1 a2 a3 true))) = some r := by rw [if_pos rfl] at H; exact H
  clear H
  have H := H1
  clear H1
  have HC7 := Aside0.mk H
  clear H
  go_enter Tryd.func10, Tryd.ntmps10
  go_upto_region 3 with (first | ((with_reducible refine gate_callee (f := 18) rfl ?_); refine goesL_ (some 15) rfl rfl Tryd.func18 (by kernel_rfl) rfl #[] rfl (by (try simp only [List.map_toArray, List.map_cons, List.map_nil]); first | done | rfl | (simp only [List.length_drop, List.length_take]; rfl)) ?_; (with_reducible refine (law_sane.calls  true _ ?side1 A5.out).mono ?_); (case side1 => exact TabB.below HT.out (by repeat (first | (with_reducible first | exact HB.out | apply below_alloc | apply pw_below_drewN | apply below_drew1) | exact HB.out))); rintro e w8 ⟨rfl, hb⟩; refine ⟨_, rfl, ?_⟩; have n0_ := Aside0.mk (below_step (by repeat (first | (with_reducible first | exact HB.out | apply below_alloc | apply pw_below_drewN | apply below_drew1) | exact HB.out)) hb); clear HB; have HB := n0_; clear n0_; (try clear hb); (try clear hb2); (try clear hk); (try clear hi)))
  (try simp only [Act.put, List.setIfInBounds_toArray, List.set_cons_zero, List.set_cons_succ])
  go_cut [25] (fun v25 wc => ∃ (kq : Nat) (x25_6 : Bool), v25 = .bool x25_6 ∧ Aside0 (waterhourlaw04_RefillProved.j0 kq l0 a1 a2 a3 x25_6 = some r) ∧ Aside0 (kq ≤ k) ∧ Aside0 (Below w.heap.size w wc))
  case first =>
   have H := HC7.out
   clear HC7
   replace H := Option.bind_eq_some_iff.mp H
   obtain ⟨t601, A90, H⟩ := H
   replace H : (if t601 = true then ((waterhourref04_Event.f l0 a1 0).bind fun t602 => (waterhourlaw04_RefillProved.j0 k l0 a1 a2 a3 (!t602))) else (waterhourlaw04_RefillProved.j0 k l0 a1 a2 a3 true)) = some r := H
   have A9 := Aside0.mk A90
   clear A90
   by_cases c10 : t601 = true
   ·subst c10
    have H1 : ((waterhourref04_Event.f l0 a1 0).bind fun t602 => (waterhourlaw04_RefillProved.j0 k l0 a1 a2 a3 (!t602))) = some r := by rw [if_pos rfl] at H; exact H
    clear H
    have H := H1
    clear H1
    replace H := Option.bind_eq_some_iff.mp H
    obtain ⟨t602, A110, H⟩ := H
    replace H : (waterhourlaw04_RefillProved.j0 k l0 a1 a2 a3 (!t602)) = some r := H
    have A11 := Aside0.mk A110
    clear A110
    have H' := Aside0.mk H
    clear H
    go_wp2_with (first | ((with_reducible refine gate_callee (f := 31) rfl ?_); refine goesL_ (some 18) rfl rfl Tryd.func31 (by kernel_rfl) rfl #[.slice A0 l0.length c0] rfl (by (try simp only [List.map_toArray, List.map_cons, List.map_nil]); first | done | rfl | (simp only [List.length_drop, List.length_take]; rfl)) ?_; (with_reducible refine (waterhourref04_Valid.calls k _ _ l0 true _ ?side1 ?side2 A9.out).mono ?_); (case side1 => repeat (first | exact (Kd.C_below HR0.out HB.out) | (with_reducible refine Kd.C_alloc ?_ _) | (with_reducible refine Kd.C_drewN ?_ _) | (with_reducible refine Kd.C_drew ?_))); (case side2 => exact HC0.out); rintro e w12 ⟨rfl, hb⟩; refine ⟨_, rfl, ?_⟩; have n0_ := Aside0.mk (below_step (by repeat (first | (with_reducible first | exact HB.out | apply below_alloc | apply pw_below_drewN | apply below_drew1) | exact HB.out)) hb); clear HB; have HB := n0_; clear n0_; (try clear hb); (try clear hb2); (try clear hk); (try clear hi)) | (go_at_call 36; (with_reducible refine (waterhourref04_Event.calls _ _ l0 a1 0 t602 _ ?side1 ?side2 A11.out).mono ?_); (case side1 => repeat (first | exact (Kd.C_below HR0.out HB.out) | (with_reducible refine Kd.C_alloc ?_ _) | (with_reducible refine Kd.C_drewN ?_ _) | (with_reducible refine Kd.C_drew ?_))); (case side2 => exact HC0.out); rintro e w' ⟨rfl, ⟨nd, rfl⟩⟩))
    go_meet
    case rel => exact ⟨_, (!t602), (by first | rfl | (simp; done) | (simp [*]; done)), H', ⟨by first | omega | exact Nat.le_refl _⟩, ⟨by repeat (first | (with_reducible first | exact HB.out | apply below_alloc | apply pw_below_drewN | apply below_drew1) | exact HB.out)⟩⟩
   ·replace c10 := Bool.eq_false_iff.mpr c10
    subst c10
    have H1 : (waterhourlaw04_RefillProved.j0 k l0 a1 a2 a3 true) = some r := by rw [if_neg (show ¬ (false = true) by decide)] at H; exact H
    clear H
    have H := H1
    clear H1
    have H' := Aside0.mk H
    clear H
    go_wp2_with (first | ((with_reducible refine gate_callee (f := 31) rfl ?_); refine goesL_ (some 18) rfl rfl Tryd.func31 (by kernel_rfl) rfl #[.slice A0 l0.length c0] rfl (by (try simp only [List.map_toArray, List.map_cons, List.map_nil]); first | done | rfl | (simp only [List.length_drop, List.length_take]; rfl)) ?_; (with_reducible refine (waterhourref04_Valid.calls k _ _ l0 false _ ?side1 ?side2 A9.out).mono ?_); (case side1 => repeat (first | exact (Kd.C_below HR0.out HB.out) | (with_reducible refine Kd.C_alloc ?_ _) | (with_reducible refine Kd.C_drewN ?_ _) | (with_reducible refine Kd.C_drew ?_))); (case side2 => exact HC0.out); rintro e w13 ⟨rfl, hb⟩; refine ⟨_, rfl, ?_⟩; have n0_ := Aside0.mk (below_step (by repeat (first | (with_reducible first | exact HB.out | apply below_alloc | apply pw_below_drewN | apply below_drew1) | exact HB.out)) hb); clear HB; have HB := n0_; clear n0_; (try clear hb); (try clear hb2); (try clear hk); (try clear hi)))
    go_meet
    case rel => exact ⟨_, (true), (by first | rfl | (simp; done) | (simp [*]; done)), H', ⟨by first | omega | exact Nat.le_refl _⟩, ⟨by repeat (first | (with_reducible first | exact HB.out | apply below_alloc | apply pw_below_drewN | apply below_drew1) | exact HB.out)⟩⟩
  case rest =>
   clear HC7
   try clear c1
   try clear p2
   try clear c3
   try clear c6
   try clear c10
   obtain ⟨kq, x25_6, rfl, HA, HJ6, HB⟩ := hcut
   cases kq with
   | zero => exact absurd HA.out (by simp [waterhourlaw04_RefillProved.j0])
   | succ kj6 =>
    have H := HA.out
    clear HA
    simp only [waterhourlaw04_RefillProved.j0] at H
    by_cases c14 : x25_6 = true
    ·subst c14
     have H1 : (some true) = some r := by rw [if_pos rfl] at H; exact H
     clear H
     have H := H1
     clear H1
     obtain rfl := Option.some.inj H
     go_wp2
     go_ret
     exact ⟨by first | rfl | (simp [errW_none, errW_some] <;> rfl) | (simp [*, errW_none, errW_some] <;> rfl), by repeat (first | (with_reducible first | exact HB.out | apply below_alloc | apply pw_below_drewN | apply below_drew1) | exact HB.out)⟩
    ·replace c14 := Bool.eq_false_iff.mpr c14
     subst c14
     have H1 : ((refill_Time.f kj6 l0 a1).bind fun bt603 => ((refill_Proof.f l0 a1 false).bind fun bt607 => ((refill_Proof.f l0 a1 true).bind fun bt609 => (if bt603.2.2 = 31 then (if bt607.2 = 31 then (some (bt609.2 == 31)) else (some false)) else (if bt603.2.2 = 0 then (if bt607.2 = 0 then (if bt609.2 = 0 then ((refill_CheckProof.f kj6 l0 a1 false bt603.1 bt607.1).bind fun t611 => (if t611 = 0 then ((refill_CheckProof.f kj6 l0 a1 true bt603.2.1 bt609.1).bind fun t612 => (waterhourlaw04_RefillProved.j1 kj6 l0 a1 a2 a3 (t612 != 0) bt603.1 bt603.2.1)) else (waterhourlaw04_RefillProved.j1 kj6 l0 a1 a2 a3 true bt603.1 bt603.2.1))) else (waterhourlaw04_RefillProved.j1 kj6 l0 a1 a2 a3 true bt603.1 bt603.2.1)) else (waterhourlaw04_RefillProved.j1 kj6 l0 a1 a2 a3 true bt603.1 bt603.2.1)) else (waterhourlaw04_RefillProved.j1 kj6 l0 a1 a2 a3 true bt603.1 bt603.2.1)))))) = some r := by rw [if_neg (show ¬ (false = true) by decide)] at H; exact H
     clear H
     have H := H1
     clear H1
     replace H := Option.bind_eq_some_iff.mp H
     obtain ⟨⟨t603, t604, t605⟩, A150, H⟩ := H
     replace H : ((refill_Proof.f l0 a1 false).bind fun bt607 => ((refill_Proof.f l0 a1 true).bind fun bt609 => (if t605 = 31 then (if bt607.2 = 31 then (some (bt609.2 == 31)) else (some false)) else (if t605 = 0 then (if bt607.2 = 0 then (if bt609.2 = 0 then ((refill_CheckProof.f kj6 l0 a1 false t603 bt607.1).bind fun t611 => (if t611 = 0 then ((refill_CheckProof.f kj6 l0 a1 true t604 bt609.1).bind fun t612 => (waterhourlaw04_RefillProved.j1 kj6 l0 a1 a2 a3 (t612 != 0) t603 t604)) else (waterhourlaw04_RefillProved.j1 kj6 l0 a1 a2 a3 true t603 t604))) else (waterhourlaw04_RefillProved.j1 kj6 l0 a1 a2 a3 true t603 t604)) else (waterhourlaw04_RefillProved.j1 kj6 l0 a1 a2 a3 true t603 t604)) else (waterhourlaw04_RefillProved.j1 kj6 l0 a1 a2 a3 true t603 t604))))) = some r := H
     have A15 := Aside0.mk A150
     clear A150
     replace H := Option.bind_eq_some_iff.mp H
     obtain ⟨⟨t607, t608⟩, A160, H⟩ := H
     replace H : ((refill_Proof.f l0 a1 true).bind fun bt609 => (if t605 = 31 then (if t608 = 31 then (some (bt609.2 == 31)) else (some false)) else (if t605 = 0 then (if t608 = 0 then (if bt609.2 = 0 then ((refill_CheckProof.f kj6 l0 a1 false t603 t607).bind fun t611 => (if t611 = 0 then ((refill_CheckProof.f kj6 l0 a1 true t604 bt609.1).bind fun t612 => (waterhourlaw04_RefillProved.j1 kj6 l0 a1 a2 a3 (t612 != 0) t603 t604)) else (waterhourlaw04_RefillProved.j1 kj6 l0 a1 a2 a3 true t603 t604))) else (waterhourlaw04_RefillProved.j1 kj6 l0 a1 a2 a3 true t603 t604)) else (waterhourlaw04_RefillProved.j1 kj6 l0 a1 a2 a3 true t603 t604)) else (waterhourlaw04_RefillProved.j1 kj6 l0 a1 a2 a3 true t603 t604)))) = some r := H
     have A16 := Aside0.mk A160
     clear A160
     replace H := Option.bind_eq_some_iff.mp H
     obtain ⟨⟨t609, t610⟩, A170, H⟩ := H
     replace H : (if t605 = 31 then (if t608 = 31 then (some (t610 == 31)) else (some false)) else (if t605 = 0 then (if t608 = 0 then (if t610 = 0 then ((refill_CheckProof.f kj6 l0 a1 false t603 t607).bind fun t611 => (if t611 = 0 then ((refill_CheckProof.f kj6 l0 a1 true t604 t609).bind fun t612 => (waterhourlaw04_RefillProved.j1 kj6 l0 a1 a2 a3 (t612 != 0) t603 t604)) else (waterhourlaw04_RefillProved.j1 kj6 l0 a1 a2 a3 true t603 t604))) else (waterhourlaw04_RefillProved.j1 kj6 l0 a1 a2 a3 true t603 t604)) else (waterhourlaw04_RefillProved.j1 kj6 l0 a1 a2 a3 true t603 t604)) else (waterhourlaw04_RefillProved.j1 kj6 l0 a1 a2 a3 true t603 t604))) = some r := H
     have A17 := Aside0.mk A170
     clear A170
     by_cases c18 : t605 = 31
     ·rw [if_pos c18] at H
      have c18b0 : (t605 == 31) = true := beq_iff_eq.mpr c18
      have c18b1 : (t605 != 31) = false := bne_eq_false_iff_eq.mpr c18
      clear c18
      by_cases c19 : t608 = 31
      ·rw [if_pos c19] at H
       have c19b0 : (t608 == 31) = true := beq_iff_eq.mpr c19
       have c19b1 : (t608 != 31) = false := bne_eq_false_iff_eq.mpr c19
       clear c19
       obtain rfl := Option.some.inj H
       go_wp2_with (first | ((with_reducible refine gate_callee (f := 43) rfl ?_); refine goesL_ (some 29) rfl rfl Tryd.func43 (by kernel_rfl) rfl #[.slice A0 l0.length c0, .int .i64 a1] rfl (by (try simp only [List.map_toArray, List.map_cons, List.map_nil]); first | done | rfl | (simp only [List.length_drop, List.length_take]; rfl)) ?_; (with_reducible refine (refill_Time.calls kj6 _ _ l0 a1 t603 t604 t605 _ ?side1 ?side2 A15.out).mono ?_); (case side1 => repeat (first | exact (Kd.C_below HR0.out HB.out) | (with_reducible refine Kd.C_alloc ?_ _) | (with_reducible refine Kd.C_drewN ?_ _) | (with_reducible refine Kd.C_drew ?_))); (case side2 => exact HC0.out); rintro e w20 ⟨rfl, hb⟩; refine ⟨_, rfl, ?_⟩; have n0_ := Aside0.mk (below_step (by repeat (first | (with_reducible first | exact HB.out | apply below_alloc | apply pw_below_drewN | apply below_drew1) | exact HB.out)) hb); clear HB; have HB := n0_; clear n0_; (try clear hb); (try clear hb2); (try clear hk); (try clear hi)) | ((with_reducible refine gate_dst (N := 9) rfl ?_); refine box_event ?hg (N := 9) ?hd (cs := #[.int .i64 0, .int .i64 0]) (t := 49) ?hr ?_; (case hd => rfl); (case hg => rfl); (case hr => first | (go_simp; done) | (go_simp; rfl)); intro gb606 hg w21 hbox hb; have n0_ := Aside0.mk (below_step (by repeat (first | (with_reducible first | exact HB.out | apply below_alloc | apply pw_below_drewN | apply below_drew1) | exact HB.out)) hb); have n1_ := Aside0.mk (hbox); have n2_ := Aside0.mk ((by rw [hg]; exact (below_size (by repeat (first | (with_reducible first | exact HB.out | apply below_alloc | apply pw_below_drewN | apply below_drew1) | exact HB.out))) : w.heap.size ≤ gb606)); have n3_ := Aside0.mk ((by rw [hg]; exact (below_size (by repeat (first | (with_reducible first | exact HB.out | apply below_alloc | apply pw_below_drewN | apply below_drew1) | exact HB.out))) : w.heap.size ≤ gb606)); clear HB; have HB := n0_; have BK606 := n1_; have GW606 := n2_; have GE606 := n3_; clear n0_ n1_ n2_ n3_; clear hb hbox hg; have hcz22_0 : w21.cell? ⟨gb606, 0, none⟩ = some (.int .i64 0) := (blk_cell BK606.out 0).trans rfl; have hcz22_1 : w21.cell? ⟨gb606, 1, none⟩ = some (.int .i64 0) := (blk_cell BK606.out 1).trans rfl; have hfz22_0 := blk_frozen BK606.out 0; have hfz22_1 := blk_frozen BK606.out 1) | ((with_reducible refine gate_callee (f := 27) rfl ?_); refine goesL_ (some 35) rfl rfl Tryd.func27 (by kernel_rfl) rfl #[.slice A0 l0.length c0, .int .i64 a1, .bool false] rfl (by (try simp only [List.map_toArray, List.map_cons, List.map_nil]); first | done | rfl | (simp only [List.length_drop, List.length_take]; rfl)) ?_; (with_reducible refine (refill_Proof.calls _ _ l0 a1 false t607 t608 _ ?side1 ?side2 A16.out).mono ?_); (case side1 => exact Kd.C_below HR0.out (by repeat (first | (with_reducible first | exact HB.out | apply below_alloc | apply pw_below_drewN | apply below_drew1 | refine below_set ?_ GE606.out) | exact HB.out))); (case side2 => exact HC0.out); rintro e w23 ⟨rfl, hb⟩; refine ⟨_, rfl, ?_⟩; have n0_ := Aside0.mk (blk_below (g := gb606) (o := .cells #[.int .i64 t603, .int .i64 t604] 49 (0, 0)) (by (with_reducible repeat (first | refine blk_drewN ?_ _ | refine blk_drew ?_ | refine blk_alloc ?_ _)); refine blk_put (cs := #[.int .i64 t603, .int .i64 0]) ?_ 1 _ rfl; (with_reducible repeat (first | refine blk_drewN ?_ _ | refine blk_drew ?_ | refine blk_alloc ?_ _)); refine blk_put (cs := #[.int .i64 0, .int .i64 0]) ?_ 0 _ rfl; (with_reducible repeat (first | refine blk_drewN ?_ _ | refine blk_drew ?_ | refine blk_alloc ?_ _)); exact BK606.out) hb); have n1_ := Aside0.mk (below_step (by repeat (first | (with_reducible first | exact HB.out | apply below_alloc | apply pw_below_drewN | apply below_drew1 | refine below_set ?_ GE606.out) | exact HB.out)) hb); clear BK606; clear HB; have BK606 := n0_; have HB := n1_; clear n0_ n1_; (try clear hb); (try clear hb2); (try clear hk); (try clear hi)) | ((with_reducible refine gate_callee (f := 27) rfl ?_); refine goesL_ (some 41) rfl rfl Tryd.func27 (by kernel_rfl) rfl #[.slice A0 l0.length c0, .int .i64 a1, .bool true] rfl (by (try simp only [List.map_toArray, List.map_cons, List.map_nil]); first | done | rfl | (simp only [List.length_drop, List.length_take]; rfl)) ?_; (with_reducible refine (refill_Proof.calls _ _ l0 a1 true t609 t610 _ ?side1 ?side2 A17.out).mono ?_); (case side1 => repeat (first | exact (Kd.C_below HR0.out HB.out) | (with_reducible refine Kd.C_alloc ?_ _) | (with_reducible refine Kd.C_drewN ?_ _) | (with_reducible refine Kd.C_drew ?_))); (case side2 => exact HC0.out); rintro e w24 ⟨rfl, hb⟩; refine ⟨_, rfl, ?_⟩; have n0_ := Aside0.mk (blk_below (g := gb606) (o := .cells #[.int .i64 t603, .int .i64 t604] 49 (0, 0)) (by (with_reducible repeat (first | refine blk_drewN ?_ _ | refine blk_drew ?_ | refine blk_alloc ?_ _)); exact BK606.out) hb); have n1_ := Aside0.mk (below_step (by repeat (first | (with_reducible first | exact HB.out | apply below_alloc | apply pw_below_drewN | apply below_drew1 | refine below_set ?_ GE606.out) | exact HB.out)) hb); clear BK606; clear HB; have BK606 := n0_; have HB := n1_; clear n0_ n1_; (try clear hb); (try clear hb2); (try clear hk); (try clear hi)))
       go_ret
       exact ⟨by first | rfl | (simp [errW_none, errW_some] <;> rfl) | (simp [*, errW_none, errW_some] <;> rfl), by repeat (first | (with_reducible first | exact HB.out | apply below_alloc | apply pw_below_drewN | apply below_drew1 | refine below_set ?_ GE606.out) | exact HB.out)⟩
      ·rw [if_neg c19] at H
       have c19b0 : (t608 == 31) = false := beq_eq_false_iff_ne.mpr c19
       have c19b1 : (t608 != 31) = true := bne_iff_ne.mpr c19
       exact absurd (H.trans (congrArg some hrt.out)) (by simp)
     ·rw [if_neg c18] at H
      have c18b0 : (t605 == 31) = false := beq_eq_false_iff_ne.mpr c18
      have c18b1 : (t605 != 31) = true := bne_iff_ne.mpr c18
      have HC25 := Aside0.mk H
      clear H
      go_upto_region 10 with (first | ((with_reducible refine gate_callee (f := 43) rfl ?_); refine goesL_ (some 29) rfl rfl Tryd.func43 (by kernel_rfl) rfl #[.slice A0 l0.length c0, .int .i64 a1] rfl (by (try simp only [List.map_toArray, List.map_cons, List.map_nil]); first | done | rfl | (simp only [List.length_drop, List.length_take]; rfl)) ?_; (with_reducible refine (refill_Time.calls kj6 _ _ l0 a1 t603 t604 t605 _ ?side1 ?side2 A15.out).mono ?_); (case side1 => repeat (first | exact (Kd.C_below HR0.out HB.out) | (with_reducible refine Kd.C_alloc ?_ _) | (with_reducible refine Kd.C_drewN ?_ _) | (with_reducible refine Kd.C_drew ?_))); (case side2 => exact HC0.out); rintro e w26 ⟨rfl, hb⟩; refine ⟨_, rfl, ?_⟩; have n0_ := Aside0.mk (below_step (by repeat (first | (with_reducible first | exact HB.out | apply below_alloc | apply pw_below_drewN | apply below_drew1) | exact HB.out)) hb); clear HB; have HB := n0_; clear n0_; (try clear hb); (try clear hb2); (try clear hk); (try clear hi)) | ((with_reducible refine gate_dst (N := 9) rfl ?_); refine box_event ?hg (N := 9) ?hd (cs := #[.int .i64 0, .int .i64 0]) (t := 49) ?hr ?_; (case hd => rfl); (case hg => rfl); (case hr => first | (go_simp; done) | (go_simp; rfl)); intro gb606 hg w27 hbox hb; have n0_ := Aside0.mk (below_step (by repeat (first | (with_reducible first | exact HB.out | apply below_alloc | apply pw_below_drewN | apply below_drew1) | exact HB.out)) hb); have n1_ := Aside0.mk (hbox); have n2_ := Aside0.mk ((by rw [hg]; exact (below_size (by repeat (first | (with_reducible first | exact HB.out | apply below_alloc | apply pw_below_drewN | apply below_drew1) | exact HB.out))) : w.heap.size ≤ gb606)); have n3_ := Aside0.mk ((by rw [hg]; exact (below_size (by repeat (first | (with_reducible first | exact HB.out | apply below_alloc | apply pw_below_drewN | apply below_drew1) | exact HB.out))) : w.heap.size ≤ gb606)); clear HB; have HB := n0_; have BK606 := n1_; have GW606 := n2_; have GE606 := n3_; clear n0_ n1_ n2_ n3_; clear hb hbox hg; have hcz28_0 : w27.cell? ⟨gb606, 0, none⟩ = some (.int .i64 0) := (blk_cell BK606.out 0).trans rfl; have hcz28_1 : w27.cell? ⟨gb606, 1, none⟩ = some (.int .i64 0) := (blk_cell BK606.out 1).trans rfl; have hfz28_0 := blk_frozen BK606.out 0; have hfz28_1 := blk_frozen BK606.out 1) | ((with_reducible refine gate_callee (f := 27) rfl ?_); refine goesL_ (some 35) rfl rfl Tryd.func27 (by kernel_rfl) rfl #[.slice A0 l0.length c0, .int .i64 a1, .bool false] rfl (by (try simp only [List.map_toArray, List.map_cons, List.map_nil]); first | done | rfl | (simp only [List.length_drop, List.length_take]; rfl)) ?_; (with_reducible refine (refill_Proof.calls _ _ l0 a1 false t607 t608 _ ?side1 ?side2 A16.out).mono ?_); (case side1 => exact Kd.C_below HR0.out (by repeat (first | (with_reducible first | exact HB.out | apply below_alloc | apply pw_below_drewN | apply below_drew1 | refine below_set ?_ GE606.out) | exact HB.out))); (case side2 => exact HC0.out); rintro e w29 ⟨rfl, hb⟩; refine ⟨_, rfl, ?_⟩; have n0_ := Aside0.mk (blk_below (g := gb606) (o := .cells #[.int .i64 t603, .int .i64 t604] 49 (0, 0)) (by (with_reducible repeat (first | refine blk_drewN ?_ _ | refine blk_drew ?_ | refine blk_alloc ?_ _)); refine blk_put (cs := #[.int .i64 t603, .int .i64 0]) ?_ 1 _ rfl; (with_reducible repeat (first | refine blk_drewN ?_ _ | refine blk_drew ?_ | refine blk_alloc ?_ _)); refine blk_put (cs := #[.int .i64 0, .int .i64 0]) ?_ 0 _ rfl; (with_reducible repeat (first | refine blk_drewN ?_ _ | refine blk_drew ?_ | refine blk_alloc ?_ _)); exact BK606.out) hb); have n1_ := Aside0.mk (below_step (by repeat (first | (with_reducible first | exact HB.out | apply below_alloc | apply pw_below_drewN | apply below_drew1 | refine below_set ?_ GE606.out) | exact HB.out)) hb); clear BK606; clear HB; have BK606 := n0_; have HB := n1_; clear n0_ n1_; (try clear hb); (try clear hb2); (try clear hk); (try clear hi)) | ((with_reducible refine gate_callee (f := 27) rfl ?_); refine goesL_ (some 41) rfl rfl Tryd.func27 (by kernel_rfl) rfl #[.slice A0 l0.length c0, .int .i64 a1, .bool true] rfl (by (try simp only [List.map_toArray, List.map_cons, List.map_nil]); first | done | rfl | (simp only [List.length_drop, List.length_take]; rfl)) ?_; (with_reducible refine (refill_Proof.calls _ _ l0 a1 true t609 t610 _ ?side1 ?side2 A17.out).mono ?_); (case side1 => repeat (first | exact (Kd.C_below HR0.out HB.out) | (with_reducible refine Kd.C_alloc ?_ _) | (with_reducible refine Kd.C_drewN ?_ _) | (with_reducible refine Kd.C_drew ?_))); (case side2 => exact HC0.out); rintro e w30 ⟨rfl, hb⟩; refine ⟨_, rfl, ?_⟩; have n0_ := Aside0.mk (blk_below (g := gb606) (o := .cells #[.int .i64 t603, .int .i64 t604] 49 (0, 0)) (by (with_reducible repeat (first | refine blk_drewN ?_ _ | refine blk_drew ?_ | refine blk_alloc ?_ _)); exact BK606.out) hb); have n1_ := Aside0.mk (below_step (by repeat (first | (with_reducible first | exact HB.out | apply below_alloc | apply pw_below_drewN | apply below_drew1 | refine below_set ?_ GE606.out) | exact HB.out)) hb); clear BK606; clear HB; have BK606 := n0_; have HB := n1_; clear n0_ n1_; (try clear hb); (try clear hb2); (try clear hk); (try clear hi)))
      (try simp only [Act.put, List.setIfInBounds_toArray, List.set_cons_zero, List.set_cons_succ])
      go_cut [79] (fun v79 wc => ∃ (kq : Nat) (x79_24 : Bool), v79 = .bool x79_24 ∧ Aside0 (waterhourlaw04_RefillProved.j1 kq l0 a1 a2 a3 x79_24 t603 t604 = some r) ∧ Aside0 (kq ≤ kj6) ∧ Aside0 (wc.heap[gb606]? = some (.cells #[.int .i64 t603, .int .i64 t604] 49 (0, 0))) ∧ Aside0 (Below w.heap.size w wc))
      case first =>
       have H := HC25.out
       clear HC25
       by_cases c31 : t605 = 0
       ·rw [if_pos c31] at H
        have c31b0 : (t605 == 0) = true := beq_iff_eq.mpr c31
        have c31b1 : (t605 != 0) = false := bne_eq_false_iff_eq.mpr c31
        clear c31
        (first | rw [c31b0] | (simp only [i64_w, i32_w]; rw [c31b0]) | skip)
        by_cases c32 : t608 = 0
        ·rw [if_pos c32] at H
         have c32b0 : (t608 == 0) = true := beq_iff_eq.mpr c32
         have c32b1 : (t608 != 0) = false := bne_eq_false_iff_eq.mpr c32
         clear c32
         by_cases c33 : t610 = 0
         ·rw [if_pos c33] at H
          have c33b0 : (t610 == 0) = true := beq_iff_eq.mpr c33
          have c33b1 : (t610 != 0) = false := bne_eq_false_iff_eq.mpr c33
          clear c33
          replace H := Option.bind_eq_some_iff.mp H
          obtain ⟨t611, A340, H⟩ := H
          replace H : (if t611 = 0 then ((refill_CheckProof.f kj6 l0 a1 true t604 t609).bind fun t612 => (waterhourlaw04_RefillProved.j1 kj6 l0 a1 a2 a3 (t612 != 0) t603 t604)) else (waterhourlaw04_RefillProved.j1 kj6 l0 a1 a2 a3 true t603 t604)) = some r := H
          have A34 := Aside0.mk A340
          clear A340
          by_cases c35 : t611 = 0
          ·rw [if_pos c35] at H
           have c35b0 : (t611 == 0) = true := beq_iff_eq.mpr c35
           have c35b1 : (t611 != 0) = false := bne_eq_false_iff_eq.mpr c35
           clear c35
           replace H := Option.bind_eq_some_iff.mp H
           obtain ⟨t612, A360, H⟩ := H
           replace H : (waterhourlaw04_RefillProved.j1 kj6 l0 a1 a2 a3 (t612 != 0) t603 t604) = some r := H
           have A36 := Aside0.mk A360
           clear A360
           have H' := Aside0.mk H
           clear H
           have hcz37_0 : w30.cell? ⟨gb606, 0, none⟩ = some (.int .i64 t603) := (blk_cell BK606.out 0).trans rfl
           have hcz37_1 : w30.cell? ⟨gb606, 1, none⟩ = some (.int .i64 t604) := (blk_cell BK606.out 1).trans rfl
           have hfz37_0 := blk_frozen BK606.out 0
           have hfz37_1 := blk_frozen BK606.out 1
           go_wp2_with (first | (go_at_call 29; (with_reducible refine (refill_CheckProof.calls kj6 _ _ l0 a1 false t603 t607 t611 _ ?side1 ?side2 A34.out).mono ?_); (case side1 => repeat (first | exact (Kd.C_below HR0.out HB.out) | (with_reducible refine Kd.C_alloc ?_ _) | (with_reducible refine Kd.C_drewN ?_ _) | (with_reducible refine Kd.C_drew ?_))); (case side2 => exact HC0.out); rintro e w38 ⟨rfl, hb⟩; have n0_ := Aside0.mk (blk_below (g := gb606) (o := .cells #[.int .i64 t603, .int .i64 t604] 49 (0, 0)) (by (with_reducible repeat (first | refine blk_drewN ?_ _ | refine blk_drew ?_ | refine blk_alloc ?_ _)); exact BK606.out) hb); have n1_ := Aside0.mk (below_step (by repeat (first | (with_reducible first | exact HB.out | apply below_alloc | apply pw_below_drewN | apply below_drew1 | refine below_set ?_ GE606.out) | exact HB.out)) hb); clear BK606; clear HB; have BK606 := n0_; have HB := n1_; clear n0_ n1_; (try clear hb); (try clear hb2); (try clear hk); (try clear hi); have hcz39_0 : w38.cell? ⟨gb606, 0, none⟩ = some (.int .i64 t603) := (blk_cell BK606.out 0).trans rfl; have hcz39_1 : w38.cell? ⟨gb606, 1, none⟩ = some (.int .i64 t604) := (blk_cell BK606.out 1).trans rfl; have hfz39_0 := blk_frozen BK606.out 0; have hfz39_1 := blk_frozen BK606.out 1) | (go_at_call 29; (with_reducible refine (refill_CheckProof.calls kj6 _ _ l0 a1 true t604 t609 t612 _ ?side1 ?side2 A36.out).mono ?_); (case side1 => repeat (first | exact (Kd.C_below HR0.out HB.out) | (with_reducible refine Kd.C_alloc ?_ _) | (with_reducible refine Kd.C_drewN ?_ _) | (with_reducible refine Kd.C_drew ?_))); (case side2 => exact HC0.out); rintro e w40 ⟨rfl, hb⟩; have n0_ := Aside0.mk (blk_below (g := gb606) (o := .cells #[.int .i64 t603, .int .i64 t604] 49 (0, 0)) (by (with_reducible repeat (first | refine blk_drewN ?_ _ | refine blk_drew ?_ | refine blk_alloc ?_ _)); exact BK606.out) hb); have n1_ := Aside0.mk (below_step (by repeat (first | (with_reducible first | exact HB.out | apply below_alloc | apply pw_below_drewN | apply below_drew1 | refine below_set ?_ GE606.out) | exact HB.out)) hb); clear BK606; clear HB; have BK606 := n0_; have HB := n1_; clear n0_ n1_; (try clear hb); (try clear hb2); (try clear hk); (try clear hi)))
           go_meet
           case rel => exact ⟨_, ((t612 != 0)), (by first | rfl | (simp; done) | (simp [*]; done)), H', ⟨by have := HJ6.out; first | omega | exact Nat.le_refl _⟩, ⟨by (with_reducible repeat (first | refine blk_drewN ?_ _ | refine blk_drew ?_ | refine blk_alloc ?_ _)); exact BK606.out⟩, ⟨by repeat (first | (with_reducible first | exact HB.out | apply below_alloc | apply pw_below_drewN | apply below_drew1 | refine below_set ?_ GE606.out) | exact HB.out)⟩⟩
          ·rw [if_neg c35] at H
           have c35b0 : (t611 == 0) = false := beq_eq_false_iff_ne.mpr c35
           have c35b1 : (t611 != 0) = true := bne_iff_ne.mpr c35
           have H' := Aside0.mk H
           clear H
           have hcz41_0 : w30.cell? ⟨gb606, 0, none⟩ = some (.int .i64 t603) := (blk_cell BK606.out 0).trans rfl
           have hcz41_1 : w30.cell? ⟨gb606, 1, none⟩ = some (.int .i64 t604) := (blk_cell BK606.out 1).trans rfl
           have hfz41_0 := blk_frozen BK606.out 0
           have hfz41_1 := blk_frozen BK606.out 1
           go_wp2_with (first | (go_at_call 29; (with_reducible refine (refill_CheckProof.calls kj6 _ _ l0 a1 false t603 t607 t611 _ ?side1 ?side2 A34.out).mono ?_); (case side1 => repeat (first | exact (Kd.C_below HR0.out HB.out) | (with_reducible refine Kd.C_alloc ?_ _) | (with_reducible refine Kd.C_drewN ?_ _) | (with_reducible refine Kd.C_drew ?_))); (case side2 => exact HC0.out); rintro e w42 ⟨rfl, hb⟩; have n0_ := Aside0.mk (blk_below (g := gb606) (o := .cells #[.int .i64 t603, .int .i64 t604] 49 (0, 0)) (by (with_reducible repeat (first | refine blk_drewN ?_ _ | refine blk_drew ?_ | refine blk_alloc ?_ _)); exact BK606.out) hb); have n1_ := Aside0.mk (below_step (by repeat (first | (with_reducible first | exact HB.out | apply below_alloc | apply pw_below_drewN | apply below_drew1 | refine below_set ?_ GE606.out) | exact HB.out)) hb); clear BK606; clear HB; have BK606 := n0_; have HB := n1_; clear n0_ n1_; (try clear hb); (try clear hb2); (try clear hk); (try clear hi)))
           go_meet
           case rel => exact ⟨_, (true), (by first | rfl | (simp; done) | (simp [*]; done)), H', ⟨by have := HJ6.out; first | omega | exact Nat.le_refl _⟩, ⟨by (with_reducible repeat (first | refine blk_drewN ?_ _ | refine blk_drew ?_ | refine blk_alloc ?_ _)); exact BK606.out⟩, ⟨by repeat (first | (with_reducible first | exact HB.out | apply below_alloc | apply pw_below_drewN | apply below_drew1 | refine below_set ?_ GE606.out) | exact HB.out)⟩⟩
         ·rw [if_neg c33] at H
          have c33b0 : (t610 == 0) = false := beq_eq_false_iff_ne.mpr c33
          have c33b1 : (t610 != 0) = true := bne_iff_ne.mpr c33
          have H' := Aside0.mk H
          clear H
          go_wp2
          go_meet
          case rel => exact ⟨_, (true), (by first | rfl | (simp; done) | (simp [*]; done)), H', ⟨by have := HJ6.out; first | omega | exact Nat.le_refl _⟩, ⟨by (with_reducible repeat (first | refine blk_drewN ?_ _ | refine blk_drew ?_ | refine blk_alloc ?_ _)); exact BK606.out⟩, ⟨by repeat (first | (with_reducible first | exact HB.out | apply below_alloc | apply pw_below_drewN | apply below_drew1 | refine below_set ?_ GE606.out) | exact HB.out)⟩⟩
        ·rw [if_neg c32] at H
         have c32b0 : (t608 == 0) = false := beq_eq_false_iff_ne.mpr c32
         have c32b1 : (t608 != 0) = true := bne_iff_ne.mpr c32
         have H' := Aside0.mk H
         clear H
         go_wp2
         go_meet
         case rel => exact ⟨_, (true), (by first | rfl | (simp; done) | (simp [*]; done)), H', ⟨by have := HJ6.out; first | omega | exact Nat.le_refl _⟩, ⟨by (with_reducible repeat (first | refine blk_drewN ?_ _ | refine blk_drew ?_ | refine blk_alloc ?_ _)); exact BK606.out⟩, ⟨by repeat (first | (with_reducible first | exact HB.out | apply below_alloc | apply pw_below_drewN | apply below_drew1 | refine below_set ?_ GE606.out) | exact HB.out)⟩⟩
       ·rw [if_neg c31] at H
        have c31b0 : (t605 == 0) = false := beq_eq_false_iff_ne.mpr c31
        have c31b1 : (t605 != 0) = true := bne_iff_ne.mpr c31
        (first | rw [c31b0] | (simp only [i64_w, i32_w]; rw [c31b0]) | skip)
        have H' := Aside0.mk H
        clear H
        go_wp2
        go_meet
        case rel => exact ⟨_, (true), (by first | rfl | (simp; done) | (simp [*]; done)), H', ⟨by have := HJ6.out; first | omega | exact Nat.le_refl _⟩, ⟨by (with_reducible repeat (first | refine blk_drewN ?_ _ | refine blk_drew ?_ | refine blk_alloc ?_ _)); exact BK606.out⟩, ⟨by repeat (first | (with_reducible first | exact HB.out | apply below_alloc | apply pw_below_drewN | apply below_drew1 | refine below_set ?_ GE606.out) | exact HB.out)⟩⟩
      case rest =>
       clear HC25
       try clear c1
       try clear c2
       try clear p2
       try clear c3
       try clear c4
       try clear c6
       try clear c10
       try clear c14
       try clear c18
       try clear c18b0
       try clear c18b1
       try clear c19
       try clear c19b0
       try clear c19b1
       try clear c27
       try clear c31
       try clear c31b0
       try clear c31b1
       try clear c32
       try clear c32b0
       try clear c32b1
       try clear c33
       try clear c33b0
       try clear c33b1
       try clear c35
       try clear c35b0
       try clear c35b1
       try clear hcz22_0
       try clear hcz22_1
       try clear hcz28_0
       try clear hcz28_1
       try clear hcz37_0
       try clear hcz37_1
       try clear hcz39_0
       try clear hcz39_1
       try clear hcz41_0
       try clear hcz41_1
       try clear hfz22_0
       try clear hfz22_1
       try clear hfz28_0
       try clear hfz28_1
       try clear hfz37_0
       try clear hfz37_1
       try clear hfz39_0
       try clear hfz39_1
       try clear hfz41_0
       try clear hfz41_1
       try clear p2
       obtain ⟨kq, x79_24, rfl, HA, HJ24, BK606, HB⟩ := hcut
       cases kq with
       | zero => exact absurd HA.out (by simp [waterhourlaw04_RefillProved.j1])
       | succ kj24 =>
        have H := HA.out
        clear HA
        simp only [waterhourlaw04_RefillProved.j1] at H
        by_cases c43 : x79_24 = true
        ·subst c43
         have H1 : (some false) = some r := by rw [if_pos rfl] at H; exact H
         clear H
         have H := H1
         clear H1
         exact absurd (H.trans (congrArg some hrt.out)) (by simp)
        ·replace c43 := Bool.eq_false_iff.mpr c43
         subst c43
         have H1 : (if a2 > t603 then ((refill_CheckProof.f kj24 l0 a1 false a2 a3).bind fun t613 => (if t613 = 0 then (some false) else (if a2 ≥ t604 then (some true) else ((refill_CheckProof.f kj24 l0 a1 true a2 a3).bind fun t614 => (some (t614 != 0)))))) else (if a2 ≥ t604 then (some true) else ((refill_CheckProof.f kj24 l0 a1 true a2 a3).bind fun t615 => (some (t615 != 0))))) = some r := by rw [if_neg (show ¬ (false = true) by decide)] at H; exact H
         clear H
         have H := H1
         clear H1
         by_cases c44 : a2 > t603
         ·rw [if_pos c44] at H
          have c44b0 : decide (t603 < a2) = true := decide_eq_true c44
          clear c44
          replace H := Option.bind_eq_some_iff.mp H
          obtain ⟨t613, A450, H⟩ := H
          replace H : (if t613 = 0 then (some false) else (if a2 ≥ t604 then (some true) else ((refill_CheckProof.f kj24 l0 a1 true a2 a3).bind fun t614 => (some (t614 != 0))))) = some r := H
          have A45 := Aside0.mk A450
          clear A450
          by_cases c46 : t613 = 0
          ·rw [if_pos c46] at H
           have c46b0 : (t613 == 0) = true := beq_iff_eq.mpr c46
           have c46b1 : (t613 != 0) = false := bne_eq_false_iff_eq.mpr c46
           clear c46
           exact absurd (H.trans (congrArg some hrt.out)) (by simp)
          ·rw [if_neg c46] at H
           have c46b0 : (t613 == 0) = false := beq_eq_false_iff_ne.mpr c46
           have c46b1 : (t613 != 0) = true := bne_iff_ne.mpr c46
           by_cases c47 : a2 ≥ t604
           ·rw [if_pos c47] at H
            have c47b0 : decide (t604 ≤ a2) = true := decide_eq_true c47
            clear c47
            obtain rfl := Option.some.inj H
            have hcz48_0 : wc.cell? ⟨gb606, 0, none⟩ = some (.int .i64 t603) := (blk_cell BK606.out 0).trans rfl
            have hcz48_1 : wc.cell? ⟨gb606, 1, none⟩ = some (.int .i64 t604) := (blk_cell BK606.out 1).trans rfl
            have hfz48_0 := blk_frozen BK606.out 0
            have hfz48_1 := blk_frozen BK606.out 1
            go_wp2_with (first | (go_at_call 29; (with_reducible refine (refill_CheckProof.calls kj24 _ _ l0 a1 false a2 a3 t613 _ ?side1 ?side2 A45.out).mono ?_); (case side1 => repeat (first | exact (Kd.C_below HR0.out HB.out) | (with_reducible refine Kd.C_alloc ?_ _) | (with_reducible refine Kd.C_drewN ?_ _) | (with_reducible refine Kd.C_drew ?_))); (case side2 => exact HC0.out); rintro e w49 ⟨rfl, hb⟩; have n0_ := Aside0.mk (blk_below (g := gb606) (o := .cells #[.int .i64 t603, .int .i64 t604] 49 (0, 0)) (by (with_reducible repeat (first | refine blk_drewN ?_ _ | refine blk_drew ?_ | refine blk_alloc ?_ _)); exact BK606.out) hb); have n1_ := Aside0.mk (below_step (by repeat (first | (with_reducible first | exact HB.out | apply below_alloc | apply pw_below_drewN | apply below_drew1 | refine below_set ?_ GE606.out) | exact HB.out)) hb); clear BK606; clear HB; have BK606 := n0_; have HB := n1_; clear n0_ n1_; (try clear hb); (try clear hb2); (try clear hk); (try clear hi); have hcz50_0 : w49.cell? ⟨gb606, 0, none⟩ = some (.int .i64 t603) := (blk_cell BK606.out 0).trans rfl; have hcz50_1 : w49.cell? ⟨gb606, 1, none⟩ = some (.int .i64 t604) := (blk_cell BK606.out 1).trans rfl; have hfz50_0 := blk_frozen BK606.out 0; have hfz50_1 := blk_frozen BK606.out 1))
            go_ret
            exact ⟨by first | rfl | (simp [errW_none, errW_some] <;> rfl) | (simp [*, errW_none, errW_some] <;> rfl), by repeat (first | (with_reducible first | exact HB.out | apply below_alloc | apply pw_below_drewN | apply below_drew1 | refine below_set ?_ GE606.out) | exact HB.out)⟩
           ·rw [if_neg c47] at H
            have c47b0 : decide (t604 ≤ a2) = false := decide_eq_false c47
            clear c47
            replace H := Option.bind_eq_some_iff.mp H
            obtain ⟨t614, A510, H⟩ := H
            replace H : (some (t614 != 0)) = some r := H
            have A51 := Aside0.mk A510
            clear A510
            obtain rfl := Option.some.inj H
            have hcz52_0 : wc.cell? ⟨gb606, 0, none⟩ = some (.int .i64 t603) := (blk_cell BK606.out 0).trans rfl
            have hcz52_1 : wc.cell? ⟨gb606, 1, none⟩ = some (.int .i64 t604) := (blk_cell BK606.out 1).trans rfl
            have hfz52_0 := blk_frozen BK606.out 0
            have hfz52_1 := blk_frozen BK606.out 1
            go_wp2_with (first | (go_at_call 29; (with_reducible refine (refill_CheckProof.calls kj24 _ _ l0 a1 false a2 a3 t613 _ ?side1 ?side2 A45.out).mono ?_); (case side1 => repeat (first | exact (Kd.C_below HR0.out HB.out) | (with_reducible refine Kd.C_alloc ?_ _) | (with_reducible refine Kd.C_drewN ?_ _) | (with_reducible refine Kd.C_drew ?_))); (case side2 => exact HC0.out); rintro e w53 ⟨rfl, hb⟩; have n0_ := Aside0.mk (blk_below (g := gb606) (o := .cells #[.int .i64 t603, .int .i64 t604] 49 (0, 0)) (by (with_reducible repeat (first | refine blk_drewN ?_ _ | refine blk_drew ?_ | refine blk_alloc ?_ _)); exact BK606.out) hb); have n1_ := Aside0.mk (below_step (by repeat (first | (with_reducible first | exact HB.out | apply below_alloc | apply pw_below_drewN | apply below_drew1 | refine below_set ?_ GE606.out) | exact HB.out)) hb); clear BK606; clear HB; have BK606 := n0_; have HB := n1_; clear n0_ n1_; (try clear hb); (try clear hb2); (try clear hk); (try clear hi); have hcz54_0 : w53.cell? ⟨gb606, 0, none⟩ = some (.int .i64 t603) := (blk_cell BK606.out 0).trans rfl; have hcz54_1 : w53.cell? ⟨gb606, 1, none⟩ = some (.int .i64 t604) := (blk_cell BK606.out 1).trans rfl; have hfz54_0 := blk_frozen BK606.out 0; have hfz54_1 := blk_frozen BK606.out 1) | (go_at_call 29; (with_reducible refine (refill_CheckProof.calls kj24 _ _ l0 a1 true a2 a3 t614 _ ?side1 ?side2 A51.out).mono ?_); (case side1 => repeat (first | exact (Kd.C_below HR0.out HB.out) | (with_reducible refine Kd.C_alloc ?_ _) | (with_reducible refine Kd.C_drewN ?_ _) | (with_reducible refine Kd.C_drew ?_))); (case side2 => exact HC0.out); rintro e w55 ⟨rfl, hb⟩; have n0_ := Aside0.mk (blk_below (g := gb606) (o := .cells #[.int .i64 t603, .int .i64 t604] 49 (0, 0)) (by (with_reducible repeat (first | refine blk_drewN ?_ _ | refine blk_drew ?_ | refine blk_alloc ?_ _)); exact BK606.out) hb); have n1_ := Aside0.mk (below_step (by repeat (first | (with_reducible first | exact HB.out | apply below_alloc | apply pw_below_drewN | apply below_drew1 | refine below_set ?_ GE606.out) | exact HB.out)) hb); clear BK606; clear HB; have BK606 := n0_; have HB := n1_; clear n0_ n1_; (try clear hb); (try clear hb2); (try clear hk); (try clear hi)))
            go_ret
            exact ⟨by first | rfl | (simp [errW_none, errW_some] <;> rfl) | (simp [*, errW_none, errW_some] <;> rfl), by repeat (first | (with_reducible first | exact HB.out | apply below_alloc | apply pw_below_drewN | apply below_drew1 | refine below_set ?_ GE606.out) | exact HB.out)⟩
         ·rw [if_neg c44] at H
          have c44b0 : decide (t603 < a2) = false := decide_eq_false c44
          clear c44
          by_cases c56 : a2 ≥ t604
          ·rw [if_pos c56] at H
           have c56b0 : decide (t604 ≤ a2) = true := decide_eq_true c56
           clear c56
           obtain rfl := Option.some.inj H
           have hcz57_0 : wc.cell? ⟨gb606, 0, none⟩ = some (.int .i64 t603) := (blk_cell BK606.out 0).trans rfl
           have hcz57_1 : wc.cell? ⟨gb606, 1, none⟩ = some (.int .i64 t604) := (blk_cell BK606.out 1).trans rfl
           have hfz57_0 := blk_frozen BK606.out 0
           have hfz57_1 := blk_frozen BK606.out 1
           go_wp2
           go_ret
           exact ⟨by first | rfl | (simp [errW_none, errW_some] <;> rfl) | (simp [*, errW_none, errW_some] <;> rfl), by repeat (first | (with_reducible first | exact HB.out | apply below_alloc | apply pw_below_drewN | apply below_drew1 | refine below_set ?_ GE606.out) | exact HB.out)⟩
          ·rw [if_neg c56] at H
           have c56b0 : decide (t604 ≤ a2) = false := decide_eq_false c56
           clear c56
           replace H := Option.bind_eq_some_iff.mp H
           obtain ⟨t615, A580, H⟩ := H
           replace H : (some (t615 != 0)) = some r := H
           have A58 := Aside0.mk A580
           clear A580
           obtain rfl := Option.some.inj H
           have hcz59_0 : wc.cell? ⟨gb606, 0, none⟩ = some (.int .i64 t603) := (blk_cell BK606.out 0).trans rfl
           have hcz59_1 : wc.cell? ⟨gb606, 1, none⟩ = some (.int .i64 t604) := (blk_cell BK606.out 1).trans rfl
           have hfz59_0 := blk_frozen BK606.out 0
           have hfz59_1 := blk_frozen BK606.out 1
           go_wp2_with (first | (go_at_call 29; (with_reducible refine (refill_CheckProof.calls kj24 _ _ l0 a1 true a2 a3 t615 _ ?side1 ?side2 A58.out).mono ?_); (case side1 => repeat (first | exact (Kd.C_below HR0.out HB.out) | (with_reducible refine Kd.C_alloc ?_ _) | (with_reducible refine Kd.C_drewN ?_ _) | (with_reducible refine Kd.C_drew ?_))); (case side2 => exact HC0.out); rintro e w60 ⟨rfl, hb⟩; have n0_ := Aside0.mk (blk_below (g := gb606) (o := .cells #[.int .i64 t603, .int .i64 t604] 49 (0, 0)) (by (with_reducible repeat (first | refine blk_drewN ?_ _ | refine blk_drew ?_ | refine blk_alloc ?_ _)); exact BK606.out) hb); have n1_ := Aside0.mk (below_step (by repeat (first | (with_reducible first | exact HB.out | apply below_alloc | apply pw_below_drewN | apply below_drew1 | refine below_set ?_ GE606.out) | exact HB.out)) hb); clear BK606; clear HB; have BK606 := n0_; have HB := n1_; clear n0_ n1_; (try clear hb); (try clear hb2); (try clear hk); (try clear hi)))
           go_ret
           exact ⟨by first | rfl | (simp [errW_none, errW_some] <;> rfl) | (simp [*, errW_none, errW_some] <;> rfl), by repeat (first | (with_reducible first | exact HB.out | apply below_alloc | apply pw_below_drewN | apply below_drew1 | refine below_set ?_ GE606.out) | exact HB.out)⟩
 ·replace c6 := Bool.eq_false_iff.mpr c6
  subst c6
  have H1 : (some false) = some r := by rw [if_neg (show ¬ (false = true) by decide)] at H; exact H
  clear H
  have H := H1
  clear H1
  exact absurd (H.trans (congrArg some hrt.out)) (by simp)

end Go.Proofs.YtgiihjcpgjpkcaaDoor.Q
