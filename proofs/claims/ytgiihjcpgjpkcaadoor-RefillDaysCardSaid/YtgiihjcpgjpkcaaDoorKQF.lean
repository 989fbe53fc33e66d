/- Contracts of functions that RefillDays reaches: each Go function as a plain Lean function and the proof that its call answers just so. -/
import Derived.Test.YtgiihjcpgjpkcaaDoorKQ0
import Derived.Test.YtgiihjcpgjpkcaaDoorKQA
import Derived.Test.YtgiihjcpgjpkcaaDoorKQB
import Derived.Test.YtgiihjcpgjpkcaaDoorKHClash
import Derived.Test.YtgiihjcpgjpkcaaDoorKHTime
namespace Go.Proofs.YtgiihjcpgjpkcaaDoor.Q
open Go.RowKit Go.Proofs.YtgiihjcpgjpkcaaDoorW.PrintWords Go.Proofs.YtgiihjcpgjpkcaaDoorW.PrintLast Go.Proofs.YtgiihjcpgjpkcaaDoorW.PrintMore
attribute [local go_sem] max2_int min2_int max_two min_two max_three min_three max_four min_four   -- for this text's walks alone
set_option linter.unusedVariables false
set_option linter.unusedSimpArgs false
def refill_possible.f (l0 : List (S51)) : Option (Bool) := (refill_clash.f l0).bind fun bt132 => (some (!bt132.2.2))
set_option maxHeartbeats 8000000 in
set_option maxRecDepth 100000 in
theorem refill_possible.calls (A0 : Option Addr) (c0 : Nat) (l0 : List (S51)) (r : Bool) (w : World) (hr0 : Kd.C k51 w A0 l0.length l0) (hc0 : l0.length ≤ c0) (h : refill_possible.f l0 = some r) :
  Calls Tryd.prog 64 #[.slice A0 l0.length c0] w fun e w' => e = .returned (.bool r) ∧ Below w.heap.size w w' := by
 have HR0 := a_ hr0
 have HC0 := a_ hc0
 clear hr0 hc0
 have HB := a_ (Below.refl w.heap.size w)
 have H : ((refill_clash.f l0).bind fun bt132 => (some (!bt132.2.2))) = some r := h
 clear h
 replace H := Option.bind_eq_some_iff.mp H
 obtain ⟨⟨t132, t133, t134⟩, A20, H⟩ := H
 replace H : (some (!t134)) = some r := H
 have A2 := a_ A20
 clear A20
 obtain rfl := Option.some.inj H
 go_enter Tryd.func64, Tryd.ntmps64
 go_wp2_with (first | ((with_reducible refine gate_callee (f := 68) rfl ?_); refine goesL_ (some 8) rfl rfl Tryd.func68 (by kernel_rfl) rfl #[.slice A0 l0.length c0] rfl tm_ ?_; (with_reducible refine (refill_clash.calls _ _ l0 t132 t133 t134 _ ?side1 ?side2 A2.out).mono ?_); (case side1 => exact cl_ HR0.out); (case side2 => exact HC0.out); rintro e w3 ⟨rfl, hb⟩; refine ⟨_, rfl, ?_⟩; have n0_ := a_ (below_step bl_ hb); clear HB; have HB := n0_; clear n0_; (try clear hb); (try clear hb2); (try clear hk); (try clear hi)))
 go_ret
 exact ⟨by first | rfl | (simp [errW_none, errW_some] <;> rfl) | (simp [*, errW_none, errW_some] <;> rfl), bl_⟩
def refill_ready.f (k : Nat) (l0 : List (S51)) (a1 : Int) (l2 : List Int) : Option (Int) := (refill_event.f k l0 a1 l2).bind fun t135 => (if t135 = 0 then ((refill_possible.f l0).bind fun t136 => (if t136 = true then (some 0) else (some 31))) else (some t135))
theorem refill_ready.mono : ∀ a0 a1 a2 k, LeO (refill_ready.f k a0 a1 a2) (refill_ready.f (k + 1) a0 a1 a2) := by
 intro a0 a1 a2 k
 unfold refill_ready.f
 repeat' first
   | (with_reducible exact refill_event.mono _ _ _ _)
   | (with_reducible exact LeO.refl _)
   | (with_reducible exact LeO.none _)
   | (with_reducible refine LeO.ite ?_ ?_)
   | (with_reducible refine LeO.bind ?_ (fun _ => ?_))
   | exact refill_event.mono _ _ _ _
   | exact LeO.none _
   | refine LeO.ite ?_ ?_
   | refine LeO.bind ?_ (fun _ => ?_)
set_option maxHeartbeats 8000000 in
set_option maxRecDepth 100000 in
theorem refill_ready.calls (k : Nat) (A0 : Option Addr) (c0 : Nat) (l0 : List (S51)) (a1 : Int) (A2 : Option Addr) (c2 : Nat) (l2 : List Int) (r : Int) (w : World) (hr0 : Kd.C k51 w A0 l0.length l0) (hc0 : l0.length ≤ c0) (hr2 : Kd.C (Kd.int .i64) w A2 l2.length l2) (hc2 : l2.length ≤ c2) (h : refill_ready.f k l0 a1 l2 = some r) :
  Calls Tryd.prog 72 #[.slice A0 l0.length c0, .int .i64 a1, .slice A2 l2.length c2] w fun e w' => e = .returned (.int .i64 r) ∧ Below w.heap.size w w' := by
 have HR0 := a_ hr0
 have HC0 := a_ hc0
 clear hr0 hc0
 have HR2 := a_ hr2
 have HC2 := a_ hc2
 clear hr2 hc2
 have HB := a_ (Below.refl w.heap.size w)
 have H : ((refill_event.f k l0 a1 l2).bind fun t135 => (if t135 = 0 then ((refill_possible.f l0).bind fun t136 => (if t136 = true then (some 0) else (some 31))) else (some t135))) = some r := h
 clear h
 replace H := Option.bind_eq_some_iff.mp H
 obtain ⟨t135, A40, H⟩ := H
 replace H : (if t135 = 0 then ((refill_possible.f l0).bind fun t136 => (if t136 = true then (some 0) else (some 31))) else (some t135)) = some r := H
 have A4 := a_ A40
 clear A40
 by_cases c5 : t135 = 0
 ·rw [if_pos c5] at H
  have c5b0 : (t135 == 0) = true := beq_iff_eq.mpr c5
  have c5b1 : (t135 != 0) = false := bne_eq_false_iff_eq.mpr c5
  clear c5
  replace H := Option.bind_eq_some_iff.mp H
  obtain ⟨t136, A60, H⟩ := H
  replace H : (if t136 = true then (some 0) else (some 31)) = some r := H
  have A6 := a_ A60
  clear A60
  by_cases c7 : t136 = true
  ·subst c7
   have H1 : (some 0) = some r := by rw [if_pos rfl] at H; exact H
   clear H
   have H := H1
   clear H1
   obtain rfl := Option.some.inj H
   go_enter Tryd.func72, Tryd.ntmps72
   go_wp2_with (first | ((with_reducible refine gate_callee (f := 63) rfl ?_); refine goesL_ (some 11) rfl rfl Tryd.func63 (by kernel_rfl) rfl #[.slice A0 l0.length c0, .int .i64 a1, .slice A2 l2.length c2] rfl tm_ ?_; (with_reducible refine (refill_event.calls k _ _ l0 a1 _ _ l2 t135 _ ?side1 ?side2 ?side3 ?side4 A4.out).mono ?_); (case side1 => exact cl_ HR0.out); (case side2 => exact HC0.out); (case side3 => exact cl_ HR2.out); (case side4 => exact HC2.out); rintro e w8 ⟨rfl, hb⟩; refine ⟨_, rfl, ?_⟩; have n0_ := a_ (below_step bl_ hb); clear HB; have HB := n0_; clear n0_; (try clear hb); (try clear hb2); (try clear hk); (try clear hi)) | ((with_reducible refine gate_callee (f := 64) rfl ?_); refine goesL_ (some 16) rfl rfl Tryd.func64 (by kernel_rfl) rfl #[.slice A0 l0.length c0] rfl tm_ ?_; (with_reducible refine (refill_possible.calls _ _ l0 true _ ?side1 ?side2 A6.out).mono ?_); (case side1 => exact cl_ (Kd.C_below HR0.out HB.out)); (case side2 => exact HC0.out); rintro e w9 ⟨rfl, hb⟩; refine ⟨_, rfl, ?_⟩; have n0_ := a_ (below_step bl_ hb); clear HB; have HB := n0_; clear n0_; (try clear hb); (try clear hb2); (try clear hk); (try clear hi)))
   go_ret
   exact ⟨by first | rfl | (simp [errW_none, errW_some] <;> rfl) | (simp [*, errW_none, errW_some] <;> rfl), bl_⟩
  ·replace c7 := Bool.eq_false_iff.mpr c7
   subst c7
   have H1 : (some 31) = some r := by rw [if_neg (show ¬ (false = true) by decide)] at H; exact H
   clear H
   have H := H1
   clear H1
   obtain rfl := Option.some.inj H
   go_enter Tryd.func72, Tryd.ntmps72
   go_wp2_with (first | ((with_reducible refine gate_callee (f := 63) rfl ?_); refine goesL_ (some 11) rfl rfl Tryd.func63 (by kernel_rfl) rfl #[.slice A0 l0.length c0, .int .i64 a1, .slice A2 l2.length c2] rfl tm_ ?_; (with_reducible refine (refill_event.calls k _ _ l0 a1 _ _ l2 t135 _ ?side1 ?side2 ?side3 ?side4 A4.out).mono ?_); (case side1 => exact cl_ HR0.out); (case side2 => exact HC0.out); (case side3 => exact cl_ HR2.out); (case side4 => exact HC2.out); rintro e w10 ⟨rfl, hb⟩; refine ⟨_, rfl, ?_⟩; have n0_ := a_ (below_step bl_ hb); clear HB; have HB := n0_; clear n0_; (try clear hb); (try clear hb2); (try clear hk); (try clear hi)) | ((with_reducible refine gate_callee (f := 64) rfl ?_); refine goesL_ (some 16) rfl rfl Tryd.func64 (by kernel_rfl) rfl #[.slice A0 l0.length c0] rfl tm_ ?_; (with_reducible refine (refill_possible.calls _ _ l0 false _ ?side1 ?side2 A6.out).mono ?_); (case side1 => exact cl_ (Kd.C_below HR0.out HB.out)); (case side2 => exact HC0.out); rintro e w11 ⟨rfl, hb⟩; refine ⟨_, rfl, ?_⟩; have n0_ := a_ (below_step bl_ hb); clear HB; have HB := n0_; clear n0_; (try clear hb); (try clear hb2); (try clear hk); (try clear hi)))
   go_ret
   exact ⟨by first | rfl | (simp [errW_none, errW_some] <;> rfl) | (simp [*, errW_none, errW_some] <;> rfl), bl_⟩
 ·rw [if_neg c5] at H
  have c5b0 : (t135 == 0) = false := beq_eq_false_iff_ne.mpr c5
  have c5b1 : (t135 != 0) = true := bne_iff_ne.mpr c5
  obtain rfl := Option.some.inj H
  go_enter Tryd.func72, Tryd.ntmps72
  go_wp2_with (first | ((with_reducible refine gate_callee (f := 63) rfl ?_); refine goesL_ (some 11) rfl rfl Tryd.func63 (by kernel_rfl) rfl #[.slice A0 l0.length c0, .int .i64 a1, .slice A2 l2.length c2] rfl tm_ ?_; (with_reducible refine (refill_event.calls k _ _ l0 a1 _ _ l2 t135 _ ?side1 ?side2 ?side3 ?side4 A4.out).mono ?_); (case side1 => exact cl_ HR0.out); (case side2 => exact HC0.out); (case side3 => exact cl_ HR2.out); (case side4 => exact HC2.out); rintro e w12 ⟨rfl, hb⟩; refine ⟨_, rfl, ?_⟩; have n0_ := a_ (below_step bl_ hb); clear HB; have HB := n0_; clear n0_; (try clear hb); (try clear hb2); (try clear hk); (try clear hi)))
  go_ret
  exact ⟨by first | rfl | (simp [errW_none, errW_some] <;> rfl) | (simp [*, errW_none, errW_some] <;> rfl), bl_⟩
def refill_Clash.f (k : Nat) (l0 : List (S51)) : Option (Int × Int × Bool × Int) := (refill_Check.f k l0).bind fun t155 => (if t155 = 0 then ((refill_clash.f l0).bind fun bt156 => (some (bt156.1, bt156.2.1, bt156.2.2, 0))) else (some (0, 0, false, t155)))
theorem refill_Clash.mono : ∀ a0 k, LeO (refill_Clash.f k a0) (refill_Clash.f (k + 1) a0) := by
 intro a0 k
 unfold refill_Clash.f
 repeat' first
   | (with_reducible exact refill_Check.mono _ _)
   | (with_reducible exact LeO.refl _)
   | (with_reducible exact LeO.none _)
   | (with_reducible refine LeO.ite ?_ ?_)
   | (with_reducible refine LeO.bind ?_ (fun _ => ?_))
   | exact refill_Check.mono _ _
   | exact LeO.none _
   | refine LeO.ite ?_ ?_
   | refine LeO.bind ?_ (fun _ => ?_)
set_option maxHeartbeats 8000000 in
set_option maxRecDepth 100000 in
theorem refill_Clash.calls (k : Nat) (A0 : Option Addr) (c0 : Nat) (l0 : List (S51)) (r1 : Int) (r2 : Int) (r3 : Bool) (r4 : Int) (w : World) (hr0 : Kd.C k51 w A0 l0.length l0) (hc0 : l0.length ≤ c0) (h : refill_Clash.f k l0 = some (r1, r2, r3, r4)) :
  Calls Tryd.prog 23 #[.slice A0 l0.length c0] w fun e w' => e = .returned (.tuple #[.int .i64 r1, .int .i64 r2, .bool r3, .int .i64 r4]) ∧ Below w.heap.size w w' := by
 have HR0 := a_ hr0
 have HC0 := a_ hc0
 clear hr0 hc0
 have HB := a_ (Below.refl w.heap.size w)
 have H : ((refill_Check.f k l0).bind fun t155 => (if t155 = 0 then ((refill_clash.f l0).bind fun bt156 => (some (bt156.1, bt156.2.1, bt156.2.2, 0))) else (some (0, 0, false, t155)))) = some (r1, r2, r3, r4) := h
 clear h
 replace H := Option.bind_eq_some_iff.mp H
 obtain ⟨t155, A20, H⟩ := H
 replace H : (if t155 = 0 then ((refill_clash.f l0).bind fun bt156 => (some (bt156.1, bt156.2.1, bt156.2.2, 0))) else (some (0, 0, false, t155))) = some (r1, r2, r3, r4) := H
 have A2 := a_ A20
 clear A20
 by_cases c3 : t155 = 0
 ·rw [if_pos c3] at H
  have c3b0 : (t155 == 0) = true := beq_iff_eq.mpr c3
  have c3b1 : (t155 != 0) = false := bne_eq_false_iff_eq.mpr c3
  clear c3
  replace H := Option.bind_eq_some_iff.mp H
  obtain ⟨⟨t156, t157, t158⟩, A40, H⟩ := H
  replace H : (some (t156, t157, t158, 0)) = some (r1, r2, r3, r4) := H
  have A4 := a_ A40
  clear A40
  simp only [Option.some.injEq, Prod.mk.injEq] at H
  obtain ⟨rfl, rfl, rfl, rfl⟩ := H
  go_enter Tryd.func23, Tryd.ntmps23
  go_wp2_with (first | ((with_reducible refine gate_callee (f := 47) rfl ?_); refine goesL_ (some 11) rfl rfl Tryd.func47 (by kernel_rfl) rfl #[.slice A0 l0.length c0] rfl tm_ ?_; (with_reducible refine (refill_Check.calls k _ _ l0 t155 _ ?side1 ?side2 A2.out).mono ?_); (case side1 => exact cl_ HR0.out); (case side2 => exact HC0.out); rintro e w5 ⟨rfl, hb⟩; refine ⟨_, rfl, ?_⟩; have n0_ := a_ (below_step bl_ hb); clear HB; have HB := n0_; clear n0_; (try clear hb); (try clear hb2); (try clear hk); (try clear hi)) | ((with_reducible refine gate_callee (f := 68) rfl ?_); refine goesL_ (some 17) rfl rfl Tryd.func68 (by kernel_rfl) rfl #[.slice A0 l0.length c0] rfl tm_ ?_; (with_reducible refine (refill_clash.calls _ _ l0 t156 t157 t158 _ ?side1 ?side2 A4.out).mono ?_); (case side1 => exact cl_ (Kd.C_below HR0.out HB.out)); (case side2 => exact HC0.out); rintro e w6 ⟨rfl, hb⟩; refine ⟨_, rfl, ?_⟩; have n0_ := a_ (below_step bl_ hb); clear HB; have HB := n0_; clear n0_; (try clear hb); (try clear hb2); (try clear hk); (try clear hi)))
  refine bodyPost_ret (results_list (rs := [.tmp 2, .tmp 3, .tmp 4, .tmp 5]) rfl (by simp) (.tmp (.tmp (.tmp (.tmp .nil))))) rfl ?_
  exact ⟨by first | rfl | (simp [errW_none, errW_some] <;> rfl) | (simp [*, errW_none, errW_some] <;> rfl), bl_⟩
 ·rw [if_neg c3] at H
  have c3b0 : (t155 == 0) = false := beq_eq_false_iff_ne.mpr c3
  have c3b1 : (t155 != 0) = true := bne_iff_ne.mpr c3
  simp only [Option.some.injEq, Prod.mk.injEq] at H
  obtain ⟨rfl, rfl, rfl, rfl⟩ := H
  go_enter Tryd.func23, Tryd.ntmps23
  go_wp2_with (first | ((with_reducible refine gate_callee (f := 47) rfl ?_); refine goesL_ (some 11) rfl rfl Tryd.func47 (by kernel_rfl) rfl #[.slice A0 l0.length c0] rfl tm_ ?_; (with_reducible refine (refill_Check.calls k _ _ l0 t155 _ ?side1 ?side2 A2.out).mono ?_); (case side1 => exact cl_ HR0.out); (case side2 => exact HC0.out); rintro e w7 ⟨rfl, hb⟩; refine ⟨_, rfl, ?_⟩; have n0_ := a_ (below_step bl_ hb); clear HB; have HB := n0_; clear n0_; (try clear hb); (try clear hb2); (try clear hk); (try clear hi)))
  refine bodyPost_ret (results_list (rs := [.tmp 2, .tmp 3, .tmp 4, .tmp 5]) rfl (by simp) (.tmp (.tmp (.tmp (.tmp .nil))))) rfl ?_
  exact ⟨by first | rfl | (simp [errW_none, errW_some] <;> rfl) | (simp [*, errW_none, errW_some] <;> rfl), bl_⟩
def refill_between.f (k : Nat) (l0 : List (S51)) (a1 : Int) (a2 : Int) : Option (Int × Int) := (refill_behind.f k l0 a1 a2).bind fun bt194 => ((refill_time.f l0 a2).bind fun bt196 => (if a1 ≥ 0 then ((refill_time.f l0 a1).bind fun bt201 => (some (mx bt194.1 (wrap64 (bt196.1 - bt201.2)), mn bt194.2 (wrap64 (bt196.2 - bt201.1))))) else (some (mx bt194.1 (wrap64 (bt196.1)), mn bt194.2 (wrap64 (bt196.2))))))
theorem refill_between.mono : ∀ a0 a1 a2 k, LeO (refill_between.f k a0 a1 a2) (refill_between.f (k + 1) a0 a1 a2) := by
 intro a0 a1 a2 k
 unfold refill_between.f
 repeat' first
   | (with_reducible exact refill_behind.mono _ _ _ _)
   | (with_reducible exact LeO.refl _)
   | (with_reducible exact LeO.none _)
   | (with_reducible refine LeO.ite ?_ ?_)
   | (with_reducible refine LeO.bind ?_ (fun _ => ?_))
   | exact refill_behind.mono _ _ _ _
   | exact LeO.none _
   | refine LeO.ite ?_ ?_
   | refine LeO.bind ?_ (fun _ => ?_)
set_option maxHeartbeats 8000000 in
set_option maxRecDepth 100000 in
theorem refill_between.calls (k : Nat) (A0 : Option Addr) (c0 : Nat) (l0 : List (S51)) (a1 : Int) (a2 : Int) (r1 : Int) (r2 : Int) (w : World) (hr0 : Kd.C k51 w A0 l0.length l0) (hc0 : l0.length ≤ c0) (h : refill_between.f k l0 a1 a2 = some (r1, r2)) :
  Calls Tryd.prog 81 #[.slice A0 l0.length c0, .int .i64 a1, .int .i64 a2] w fun e w' => e = .returned (.agg #[.int .i64 r1, .int .i64 r2]) ∧ Below w.heap.size w w' := by
 have hu49 := Tryd.underlying49
 have HR0 := a_ hr0
 have HC0 := a_ hc0
 clear hr0 hc0
 have HB := a_ (Below.refl w.heap.size w)
 have H : ((refill_behind.f k l0 a1 a2).bind fun bt194 => ((refill_time.f l0 a2).bind fun bt196 => (if a1 ≥ 0 then ((refill_time.f l0 a1).bind fun bt201 => (some (mx bt194.1 (wrap64 (bt196.1 - bt201.2)), mn bt194.2 (wrap64 (bt196.2 - bt201.1))))) else (some (mx bt194.1 (wrap64 (bt196.1)), mn bt194.2 (wrap64 (bt196.2))))))) = some (r1, r2) := h
 clear h
 replace H := Option.bind_eq_some_iff.mp H
 obtain ⟨⟨t194, t195⟩, A40, H⟩ := H
 replace H : ((refill_time.f l0 a2).bind fun bt196 => (if a1 ≥ 0 then ((refill_time.f l0 a1).bind fun bt201 => (some (mx t194 (wrap64 (bt196.1 - bt201.2)), mn t195 (wrap64 (bt196.2 - bt201.1))))) else (some (mx t194 (wrap64 (bt196.1)), mn t195 (wrap64 (bt196.2)))))) = some (r1, r2) := H
 have A4 := a_ A40
 clear A40
 replace H := Option.bind_eq_some_iff.mp H
 obtain ⟨⟨t196, t197⟩, A50, H⟩ := H
 replace H : (if a1 ≥ 0 then ((refill_time.f l0 a1).bind fun bt201 => (some (mx t194 (wrap64 (t196 - bt201.2)), mn t195 (wrap64 (t197 - bt201.1))))) else (some (mx t194 (wrap64 (t196)), mn t195 (wrap64 (t197))))) = some (r1, r2) := H
 have A5 := a_ A50
 clear A50
 by_cases c6 : a1 ≥ 0
 ·rw [if_pos c6] at H
  have c6b0 : decide (0 ≤ a1) = true := decide_eq_true c6
  clear c6
  replace H := Option.bind_eq_some_iff.mp H
  obtain ⟨⟨t201, t202⟩, A70, H⟩ := H
  replace H : (some (mx t194 (wrap64 (t196 - t202)), mn t195 (wrap64 (t197 - t201)))) = some (r1, r2) := H
  have A7 := a_ A70
  clear A70
  obtain ⟨ji8, hji8⟩ : ∃ j_ : Int, (mx t194 (wrap64 (t196 - t202))) = j_ := ⟨_, rfl⟩
  replace H : (some (ji8, mn t195 (wrap64 (t197 - t201)))) = some (r1, r2) := by first | (rw [hji8] at H; exact H) | (simp only [hji8] at H ⊢; exact H)
  (try rw [hji8] at A4)
  (try rw [hji8] at A5)
  (try rw [hji8] at A7)
  have hji8_ : (if t194 < (wrap64 (t196 - t202)) then (wrap64 (t196 - t202)) else t194) = ji8 := hji8
  obtain ⟨ji9, hji9⟩ : ∃ j_ : Int, (mn t195 (wrap64 (t197 - t201))) = j_ := ⟨_, rfl⟩
  replace H : (some (ji8, ji9)) = some (r1, r2) := by first | (rw [hji9] at H; exact H) | (simp only [hji9] at H ⊢; exact H)
  (try rw [hji9] at A4)
  (try rw [hji9] at A5)
  (try rw [hji9] at A7)
  have hji9_ : (if (wrap64 (t197 - t201)) < t195 then (wrap64 (t197 - t201)) else t195) = ji9 := hji9
  simp only [Option.some.injEq, Prod.mk.injEq] at H
  obtain ⟨rfl, rfl⟩ := H
  go_enter Tryd.func81, Tryd.ntmps81
  go_wp2_with (first | ((with_reducible refine gate_dst (N := 6) rfl ?_); refine box_event ?hg (N := 6) ?hd (cs := #[.int .i64 0, .int .i64 0]) (t := 49) ?hr ?_; (case hd => rfl); (case hg => rfl); (case hr => first | (go_simp; done) | (go_simp; rfl)); intro gb193 hg w10 hbox hb; have n0_ := a_ (below_step bl_ hb); have n1_ := a_ (hbox); have n2_ := a_ ((bz_ (w := w) hg)); have n3_ := a_ ((bz_ (w := w) hg)); clear HB; have HB := n0_; have BK193 := n1_; have GW193 := n2_; have GE193 := n3_; clear n0_ n1_ n2_ n3_; clear hb hbox hg) | ((with_reducible refine gate_callee (f := 97) rfl ?_); refine goesL_ (some 13) rfl rfl Tryd.func97 (by kernel_rfl) rfl #[.slice A0 l0.length c0, .int .i64 a1, .int .i64 a2] rfl tm_ ?_; (with_reducible refine (refill_behind.calls k _ _ l0 a1 a2 t194 t195 _ ?side1 ?side2 A4.out).mono ?_); (case side1 => exact cl_ (Kd.C_below HR0.out HB.out)); (case side2 => exact HC0.out); rintro e w11 ⟨rfl, hb⟩; refine ⟨_, rfl, ?_⟩; have n0_ := a_ (bb_ BK193.out hb); have n1_ := a_ (below_step bl_ hb); clear BK193; clear HB; have BK193 := n0_; have HB := n1_; clear n0_ n1_; (try clear hb); (try clear hb2); (try clear hk); (try clear hi)) | ((with_reducible refine gate_callee (f := 65) rfl ?_); refine goesL_ (some 16) rfl rfl Tryd.func65 (by kernel_rfl) rfl #[.slice A0 l0.length c0, .int .i64 a2] rfl tm_ ?_; (with_reducible refine (refill_time.calls _ _ l0 a2 t196 t197 _ ?side1 ?side2 A5.out).mono ?_); (case side1 => exact cl_ (Kd.C_below HR0.out HB.out)); (case side2 => exact HC0.out); rintro e w12 ⟨rfl, hb⟩; refine ⟨_, rfl, ?_⟩; have n0_ := a_ (bb_ BK193.out hb); have n1_ := a_ (below_step bl_ hb); clear BK193; clear HB; have BK193 := n0_; have HB := n1_; clear n0_ n1_; (try clear hb); (try clear hb2); (try clear hk); (try clear hi)) | ((with_reducible refine gate_dst (N := 7) rfl ?_); refine box_event ?hg (N := 7) ?hd (cs := #[.int .i64 0, .int .i64 0]) (t := 49) ?hr ?_; (case hd => rfl); (case hg => rfl); (case hr => first | (go_simp; done) | (go_simp; rfl)); intro gb198 hg w13 hbox hb; have n0_ := a_ (bb_ BK193.out hb); have n1_ := a_ (below_step bl_ hb); have n2_ := a_ (hbox); have n3_ := a_ ((bz_ (w := w) hg)); have n4_ := a_ ((bz_ (w := w) hg)); have n5_ := a_ ((nl_ BK193.out hg)); have n6_ := a_ ((ng_ BK193.out hg)); clear BK193; clear HB; have BK193 := n0_; have HB := n1_; have BK198 := n2_; have GW198 := n3_; have GE198 := n4_; have NB193_198 := n5_; have NB198_193 := n6_; clear n0_ n1_ n2_ n3_ n4_ n5_ n6_; clear hb hbox hg) | ((with_reducible refine gate_dst (N := 8) rfl ?_); refine box_event ?hg (N := 8) ?hd (cs := #[.int .i64 0, .int .i64 0]) (t := 49) ?hr ?_; (case hd => rfl); (case hg => rfl); (case hr => first | (go_simp; done) | (go_simp; rfl)); intro gb199 hg w14 hbox hb; have n0_ := a_ (bb_ BK193.out hb); have n1_ := a_ (bb_ BK198.out hb); have n2_ := a_ (below_step bl_ hb); have n3_ := a_ (hbox); have n4_ := a_ ((bz_ (w := w) hg)); have n5_ := a_ ((bz_ (w := w) hg)); have n6_ := a_ ((nl_ BK193.out hg)); have n7_ := a_ ((ng_ BK193.out hg)); have n8_ := a_ ((nl_ BK198.out hg)); have n9_ := a_ ((ng_ BK198.out hg)); clear BK193; clear BK198; clear HB; have BK193 := n0_; have BK198 := n1_; have HB := n2_; have BK199 := n3_; have GW199 := n4_; have GE199 := n5_; have NB193_199 := n6_; have NB199_193 := n7_; have NB198_199 := n8_; have NB199_198 := n9_; clear n0_ n1_ n2_ n3_ n4_ n5_ n6_ n7_ n8_ n9_; clear hb hbox hg; have hnb15 := NB198_193.out; have hnc15 := NB193_198.out; have hnb16 := NB198_199.out; have hnc16 := NB199_198.out; have hcz17_0 : w14.cell? ⟨gb198, 0, none⟩ = some (.int .i64 0) := (blk_cell BK198.out 0).trans rfl; have hcz17_1 : w14.cell? ⟨gb198, 1, none⟩ = some (.int .i64 0) := (blk_cell BK198.out 1).trans rfl; have hfz17_0 := blk_frozen BK198.out 0; have hfz17_1 := blk_frozen BK198.out 1; have hnb18 := NB199_193.out; have hnc18 := NB193_199.out; have hcz19_0 : w14.cell? ⟨gb199, 0, none⟩ = some (.int .i64 0) := (blk_cell BK199.out 0).trans rfl; have hcz19_1 : w14.cell? ⟨gb199, 1, none⟩ = some (.int .i64 0) := (blk_cell BK199.out 1).trans rfl; have hfz19_0 := blk_frozen BK199.out 0; have hfz19_1 := blk_frozen BK199.out 1) | ((with_reducible refine gate_dst (N := 9) rfl ?_); refine box_event ?hg (N := 9) ?hd (cs := #[.int .i64 0, .int .i64 0]) (t := 49) ?hr ?_; (case hd => rfl); (case hg => rfl); (case hr => first | (go_simp; done) | (go_simp; rfl)); intro gb200 hg w20 hbox hb; have n0_ := a_ (blk_below (g := gb193) (o := .cells #[.int .i64 0, .int .i64 0] 49 (0, 0)) (by (with_reducible repeat (first | refine blk_drewN ?_ _ | refine blk_drew ?_ | refine blk_alloc ?_ _)); refine blk_far ?_ NB193_199.out _; (with_reducible repeat (first | refine blk_drewN ?_ _ | refine blk_drew ?_ | refine blk_alloc ?_ _)); refine blk_far ?_ NB193_199.out _; (with_reducible repeat (first | refine blk_drewN ?_ _ | refine blk_drew ?_ | refine blk_alloc ?_ _)); refine blk_far ?_ NB193_198.out _; (with_reducible repeat (first | refine blk_drewN ?_ _ | refine blk_drew ?_ | refine blk_alloc ?_ _)); refine blk_far ?_ NB193_198.out _; (with_reducible repeat (first | refine blk_drewN ?_ _ | refine blk_drew ?_ | refine blk_alloc ?_ _)); exact BK193.out) hb); have n1_ := a_ (blk_below (g := gb198) (o := .cells #[.int .i64 t194, .int .i64 t195] 49 (0, 0)) (by (with_reducible repeat (first | refine blk_drewN ?_ _ | refine blk_drew ?_ | refine blk_alloc ?_ _)); refine blk_far ?_ NB198_199.out _; (with_reducible repeat (first | refine blk_drewN ?_ _ | refine blk_drew ?_ | refine blk_alloc ?_ _)); refine blk_far ?_ NB198_199.out _; (with_reducible repeat (first | refine blk_drewN ?_ _ | refine blk_drew ?_ | refine blk_alloc ?_ _)); refine blk_put (cs := #[.int .i64 t194, .int .i64 0]) ?_ 1 _ rfl; (with_reducible repeat (first | refine blk_drewN ?_ _ | refine blk_drew ?_ | refine blk_alloc ?_ _)); refine blk_put (cs := #[.int .i64 0, .int .i64 0]) ?_ 0 _ rfl; (with_reducible repeat (first | refine blk_drewN ?_ _ | refine blk_drew ?_ | refine blk_alloc ?_ _)); exact BK198.out) hb); have n2_ := a_ (blk_below (g := gb199) (o := .cells #[.int .i64 t196, .int .i64 t197] 49 (0, 0)) (by (with_reducible repeat (first | refine blk_drewN ?_ _ | refine blk_drew ?_ | refine blk_alloc ?_ _)); refine blk_put (cs := #[.int .i64 t196, .int .i64 0]) ?_ 1 _ rfl; (with_reducible repeat (first | refine blk_drewN ?_ _ | refine blk_drew ?_ | refine blk_alloc ?_ _)); refine blk_put (cs := #[.int .i64 0, .int .i64 0]) ?_ 0 _ rfl; (with_reducible repeat (first | refine blk_drewN ?_ _ | refine blk_drew ?_ | refine blk_alloc ?_ _)); refine blk_far ?_ NB199_198.out _; (with_reducible repeat (first | refine blk_drewN ?_ _ | refine blk_drew ?_ | refine blk_alloc ?_ _)); refine blk_far ?_ NB199_198.out _; (with_reducible repeat (first | refine blk_drewN ?_ _ | refine blk_drew ?_ | refine blk_alloc ?_ _)); exact BK199.out) hb); have n3_ := a_ (below_step bl_ hb); have n4_ := a_ (hbox); have n5_ := a_ ((bz_ (w := w) hg)); have n6_ := a_ ((bz_ (w := w) hg)); have n7_ := a_ ((by rw [hg]; exact Nat.ne_of_lt (blk_lt (g := gb193) (o := .cells #[.int .i64 0, .int .i64 0] 49 (0, 0)) (by (with_reducible repeat (first | refine blk_drewN ?_ _ | refine blk_drew ?_ | refine blk_alloc ?_ _)); refine blk_far ?_ NB193_199.out _; (with_reducible repeat (first | refine blk_drewN ?_ _ | refine blk_drew ?_ | refine blk_alloc ?_ _)); refine blk_far ?_ NB193_199.out _; (with_reducible repeat (first | refine blk_drewN ?_ _ | refine blk_drew ?_ | refine blk_alloc ?_ _)); refine blk_far ?_ NB193_198.out _; (with_reducible repeat (first | refine blk_drewN ?_ _ | refine blk_drew ?_ | refine blk_alloc ?_ _)); refine blk_far ?_ NB193_198.out _; (with_reducible repeat (first | refine blk_drewN ?_ _ | refine blk_drew ?_ | refine blk_alloc ?_ _)); exact BK193.out)) : gb193 ≠ gb200)); have n8_ := a_ ((by rw [hg]; exact Nat.ne_of_gt (blk_lt (g := gb193) (o := .cells #[.int .i64 0, .int .i64 0] 49 (0, 0)) (by (with_reducible repeat (first | refine blk_drewN ?_ _ | refine blk_drew ?_ | refine blk_alloc ?_ _)); refine blk_far ?_ NB193_199.out _; (with_reducible repeat (first | refine blk_drewN ?_ _ | refine blk_drew ?_ | refine blk_alloc ?_ _)); refine blk_far ?_ NB193_199.out _; (with_reducible repeat (first | refine blk_drewN ?_ _ | refine blk_drew ?_ | refine blk_alloc ?_ _)); refine blk_far ?_ NB193_198.out _; (with_reducible repeat (first | refine blk_drewN ?_ _ | refine blk_drew ?_ | refine blk_alloc ?_ _)); refine blk_far ?_ NB193_198.out _; (with_reducible repeat (first | refine blk_drewN ?_ _ | refine blk_drew ?_ | refine blk_alloc ?_ _)); exact BK193.out)) : gb200 ≠ gb193)); have n9_ := a_ ((by rw [hg]; exact Nat.ne_of_lt (blk_lt (g := gb198) (o := .cells #[.int .i64 t194, .int .i64 t195] 49 (0, 0)) (by (with_reducible repeat (first | refine blk_drewN ?_ _ | refine blk_drew ?_ | refine blk_alloc ?_ _)); refine blk_far ?_ NB198_199.out _; (with_reducible repeat (first | refine blk_drewN ?_ _ | refine blk_drew ?_ | refine blk_alloc ?_ _)); refine blk_far ?_ NB198_199.out _; (with_reducible repeat (first | refine blk_drewN ?_ _ | refine blk_drew ?_ | refine blk_alloc ?_ _)); refine blk_put (cs := #[.int .i64 t194, .int .i64 0]) ?_ 1 _ rfl; (with_reducible repeat (first | refine blk_drewN ?_ _ | refine blk_drew ?_ | refine blk_alloc ?_ _)); refine blk_put (cs := #[.int .i64 0, .int .i64 0]) ?_ 0 _ rfl; (with_reducible repeat (first | refine blk_drewN ?_ _ | refine blk_drew ?_ | refine blk_alloc ?_ _)); exact BK198.out)) : gb198 ≠ gb200)); have n10_ := a_ ((by rw [hg]; exact Nat.ne_of_gt (blk_lt (g := gb198) (o := .cells #[.int .i64 t194, .int .i64 t195] 49 (0, 0)) (by (with_reducible repeat (first | refine blk_drewN ?_ _ | refine blk_drew ?_ | refine blk_alloc ?_ _)); refine blk_far ?_ NB198_199.out _; (with_reducible repeat (first | refine blk_drewN ?_ _ | refine blk_drew ?_ | refine blk_alloc ?_ _)); refine blk_far ?_ NB198_199.out _; (with_reducible repeat (first | refine blk_drewN ?_ _ | refine blk_drew ?_ | refine blk_alloc ?_ _)); refine blk_put (cs := #[.int .i64 t194, .int .i64 0]) ?_ 1 _ rfl; (with_reducible repeat (first | refine blk_drewN ?_ _ | refine blk_drew ?_ | refine blk_alloc ?_ _)); refine blk_put (cs := #[.int .i64 0, .int .i64 0]) ?_ 0 _ rfl; (with_reducible repeat (first | refine blk_drewN ?_ _ | refine blk_drew ?_ | refine blk_alloc ?_ _)); exact BK198.out)) : gb200 ≠ gb198)); have n11_ := a_ ((by rw [hg]; exact Nat.ne_of_lt (blk_lt (g := gb199) (o := .cells #[.int .i64 t196, .int .i64 t197] 49 (0, 0)) (by (with_reducible repeat (first | refine blk_drewN ?_ _ | refine blk_drew ?_ | refine blk_alloc ?_ _)); refine blk_put (cs := #[.int .i64 t196, .int .i64 0]) ?_ 1 _ rfl; (with_reducible repeat (first | refine blk_drewN ?_ _ | refine blk_drew ?_ | refine blk_alloc ?_ _)); refine blk_put (cs := #[.int .i64 0, .int .i64 0]) ?_ 0 _ rfl; (with_reducible repeat (first | refine blk_drewN ?_ _ | refine blk_drew ?_ | refine blk_alloc ?_ _)); refine blk_far ?_ NB199_198.out _; (with_reducible repeat (first | refine blk_drewN ?_ _ | refine blk_drew ?_ | refine blk_alloc ?_ _)); refine blk_far ?_ NB199_198.out _; (with_reducible repeat (first | refine blk_drewN ?_ _ | refine blk_drew ?_ | refine blk_alloc ?_ _)); exact BK199.out)) : gb199 ≠ gb200)); have n12_ := a_ ((by rw [hg]; exact Nat.ne_of_gt (blk_lt (g := gb199) (o := .cells #[.int .i64 t196, .int .i64 t197] 49 (0, 0)) (by (with_reducible repeat (first | refine blk_drewN ?_ _ | refine blk_drew ?_ | refine blk_alloc ?_ _)); refine blk_put (cs := #[.int .i64 t196, .int .i64 0]) ?_ 1 _ rfl; (with_reducible repeat (first | refine blk_drewN ?_ _ | refine blk_drew ?_ | refine blk_alloc ?_ _)); refine blk_put (cs := #[.int .i64 0, .int .i64 0]) ?_ 0 _ rfl; (with_reducible repeat (first | refine blk_drewN ?_ _ | refine blk_drew ?_ | refine blk_alloc ?_ _)); refine blk_far ?_ NB199_198.out _; (with_reducible repeat (first | refine blk_drewN ?_ _ | refine blk_drew ?_ | refine blk_alloc ?_ _)); refine blk_far ?_ NB199_198.out _; (with_reducible repeat (first | refine blk_drewN ?_ _ | refine blk_drew ?_ | refine blk_alloc ?_ _)); exact BK199.out)) : gb200 ≠ gb199)); clear BK193; clear BK198; clear BK199; clear HB; have BK193 := n0_; have BK198 := n1_; have BK199 := n2_; have HB := n3_; have BK200 := n4_; have GW200 := n5_; have GE200 := n6_; have NB193_200 := n7_; have NB200_193 := n8_; have NB198_200 := n9_; have NB200_198 := n10_; have NB199_200 := n11_; have NB200_199 := n12_; clear n0_ n1_ n2_ n3_ n4_ n5_ n6_ n7_ n8_ n9_ n10_ n11_ n12_; clear hb hbox hg) | ((with_reducible refine gate_callee (f := 65) rfl ?_); refine goesL_ (some 21) rfl rfl Tryd.func65 (by kernel_rfl) rfl #[.slice A0 l0.length c0, .int .i64 a1] rfl tm_ ?_; (with_reducible refine (refill_time.calls _ _ l0 a1 t201 t202 _ ?side1 ?side2 A7.out).mono ?_); (case side1 => exact cl_ (Kd.C_below HR0.out HB.out)); (case side2 => exact HC0.out); rintro e w21 ⟨rfl, hb⟩; refine ⟨_, rfl, ?_⟩; have n0_ := a_ (bb_ BK193.out hb); have n1_ := a_ (bb_ BK198.out hb); have n2_ := a_ (bb_ BK199.out hb); have n3_ := a_ (bb_ BK200.out hb); have n4_ := a_ (below_step bl_ hb); clear BK193; clear BK198; clear BK199; clear BK200; clear HB; have BK193 := n0_; have BK198 := n1_; have BK199 := n2_; have BK200 := n3_; have HB := n4_; clear n0_ n1_ n2_ n3_ n4_; (try clear hb); (try clear hb2); (try clear hk); (try clear hi); have hnb22 := NB200_193.out; have hnc22 := NB193_200.out; have hnb23 := NB200_198.out; have hnc23 := NB198_200.out; have hnb24 := NB200_199.out; have hnc24 := NB199_200.out; have hcz25_0 : w21.cell? ⟨gb200, 0, none⟩ = some (.int .i64 0) := (blk_cell BK200.out 0).trans rfl; have hcz25_1 : w21.cell? ⟨gb200, 1, none⟩ = some (.int .i64 0) := (blk_cell BK200.out 1).trans rfl; have hfz25_0 := blk_frozen BK200.out 0; have hfz25_1 := blk_frozen BK200.out 1; have hcz26_0 : w21.cell? ⟨gb198, 0, none⟩ = some (.int .i64 t194) := (blk_cell BK198.out 0).trans rfl; have hcz26_1 : w21.cell? ⟨gb198, 1, none⟩ = some (.int .i64 t195) := (blk_cell BK198.out 1).trans rfl; have hfz26_0 := blk_frozen BK198.out 0; have hfz26_1 := blk_frozen BK198.out 1; have hcz27_0 : w21.cell? ⟨gb199, 0, none⟩ = some (.int .i64 t196) := (blk_cell BK199.out 0).trans rfl; have hcz27_1 : w21.cell? ⟨gb199, 1, none⟩ = some (.int .i64 t197) := (blk_cell BK199.out 1).trans rfl; have hfz27_0 := blk_frozen BK199.out 0; have hfz27_1 := blk_frozen BK199.out 1; have hcz28_0 : w21.cell? ⟨gb193, 0, none⟩ = some (.int .i64 0) := (blk_cell BK193.out 0).trans rfl; have hcz28_1 : w21.cell? ⟨gb193, 1, none⟩ = some (.int .i64 0) := (blk_cell BK193.out 1).trans rfl; have hfz28_0 := blk_frozen BK193.out 0; have hfz28_1 := blk_frozen BK193.out 1))
  refine bodyPost_ret (results_cell_row rfl _ _ gb193 49 #[.int .i64 ji8, .int .i64 ji9] (0, 0) _ rfl (by (with_reducible repeat (first | refine blk_drewN ?_ _ | refine blk_drew ?_ | refine blk_alloc ?_ _)); refine blk_put (cs := #[.int .i64 ji8, .int .i64 0]) ?_ 1 _ rfl; (with_reducible repeat (first | refine blk_drewN ?_ _ | refine blk_drew ?_ | refine blk_alloc ?_ _)); refine blk_put (cs := #[.int .i64 0, .int .i64 0]) ?_ 0 _ rfl; (with_reducible repeat (first | refine blk_drewN ?_ _ | refine blk_drew ?_ | refine blk_alloc ?_ _)); refine blk_far ?_ NB193_200.out _; (with_reducible repeat (first | refine blk_drewN ?_ _ | refine blk_drew ?_ | refine blk_alloc ?_ _)); refine blk_far ?_ NB193_200.out _; (with_reducible repeat (first | refine blk_drewN ?_ _ | refine blk_drew ?_ | refine blk_alloc ?_ _)); exact BK193.out) Tryd.underlying49 rfl (by kernel_rfl)) rfl ?_
  exact ⟨by first | rfl | (simp [errW_none, errW_some] <;> rfl) | (simp only [← hji8, ← hji9]; first | rfl | (simp [errW_none, errW_some] <;> rfl)) | (simp [*, errW_none, errW_some] <;> rfl), bl_⟩
 ·rw [if_neg c6] at H
  have c6b0 : decide (0 ≤ a1) = false := decide_eq_false c6
  clear c6
  obtain ⟨ji29, hji29⟩ : ∃ j_ : Int, (mx t194 (wrap64 (t196))) = j_ := ⟨_, rfl⟩
  replace H : (some (ji29, mn t195 (wrap64 (t197)))) = some (r1, r2) := by first | (rw [hji29] at H; exact H) | (simp only [hji29] at H ⊢; exact H)
  (try rw [hji29] at A4)
  (try rw [hji29] at A5)
  have hji29_ : (if t194 < (wrap64 (t196)) then (wrap64 (t196)) else t194) = ji29 := hji29
  obtain ⟨ji30, hji30⟩ : ∃ j_ : Int, (mn t195 (wrap64 (t197))) = j_ := ⟨_, rfl⟩
  replace H : (some (ji29, ji30)) = some (r1, r2) := by first | (rw [hji30] at H; exact H) | (simp only [hji30] at H ⊢; exact H)
  (try rw [hji30] at A4)
  (try rw [hji30] at A5)
  have hji30_ : (if (wrap64 (t197)) < t195 then (wrap64 (t197)) else t195) = ji30 := hji30
  simp only [Option.some.injEq, Prod.mk.injEq] at H
  obtain ⟨rfl, rfl⟩ := H
  go_enter Tryd.func81, Tryd.ntmps81
  go_wp2_with (first | ((with_reducible refine gate_dst (N := 6) rfl ?_); refine box_event ?hg (N := 6) ?hd (cs := #[.int .i64 0, .int .i64 0]) (t := 49) ?hr ?_; (case hd => rfl); (case hg => rfl); (case hr => first | (go_simp; done) | (go_simp; rfl)); intro gb193 hg w31 hbox hb; have n0_ := a_ (below_step bl_ hb); have n1_ := a_ (hbox); have n2_ := a_ ((bz_ (w := w) hg)); have n3_ := a_ ((bz_ (w := w) hg)); clear HB; have HB := n0_; have BK193 := n1_; have GW193 := n2_; have GE193 := n3_; clear n0_ n1_ n2_ n3_; clear hb hbox hg) | ((with_reducible refine gate_callee (f := 97) rfl ?_); refine goesL_ (some 13) rfl rfl Tryd.func97 (by kernel_rfl) rfl #[.slice A0 l0.length c0, .int .i64 a1, .int .i64 a2] rfl tm_ ?_; (with_reducible refine (refill_behind.calls k _ _ l0 a1 a2 t194 t195 _ ?side1 ?side2 A4.out).mono ?_); (case side1 => exact cl_ (Kd.C_below HR0.out HB.out)); (case side2 => exact HC0.out); rintro e w32 ⟨rfl, hb⟩; refine ⟨_, rfl, ?_⟩; have n0_ := a_ (bb_ BK193.out hb); have n1_ := a_ (below_step bl_ hb); clear BK193; clear HB; have BK193 := n0_; have HB := n1_; clear n0_ n1_; (try clear hb); (try clear hb2); (try clear hk); (try clear hi)) | ((with_reducible refine gate_callee (f := 65) rfl ?_); refine goesL_ (some 16) rfl rfl Tryd.func65 (by kernel_rfl) rfl #[.slice A0 l0.length c0, .int .i64 a2] rfl tm_ ?_; (with_reducible refine (refill_time.calls _ _ l0 a2 t196 t197 _ ?side1 ?side2 A5.out).mono ?_); (case side1 => exact cl_ (Kd.C_below HR0.out HB.out)); (case side2 => exact HC0.out); rintro e w33 ⟨rfl, hb⟩; refine ⟨_, rfl, ?_⟩; have n0_ := a_ (bb_ BK193.out hb); have n1_ := a_ (below_step bl_ hb); clear BK193; clear HB; have BK193 := n0_; have HB := n1_; clear n0_ n1_; (try clear hb); (try clear hb2); (try clear hk); (try clear hi)) | ((with_reducible refine gate_dst (N := 7) rfl ?_); refine box_event ?hg (N := 7) ?hd (cs := #[.int .i64 0, .int .i64 0]) (t := 49) ?hr ?_; (case hd => rfl); (case hg => rfl); (case hr => first | (go_simp; done) | (go_simp; rfl)); intro gb198 hg w34 hbox hb; have n0_ := a_ (bb_ BK193.out hb); have n1_ := a_ (below_step bl_ hb); have n2_ := a_ (hbox); have n3_ := a_ ((bz_ (w := w) hg)); have n4_ := a_ ((bz_ (w := w) hg)); have n5_ := a_ ((nl_ BK193.out hg)); have n6_ := a_ ((ng_ BK193.out hg)); clear BK193; clear HB; have BK193 := n0_; have HB := n1_; have BK198 := n2_; have GW198 := n3_; have GE198 := n4_; have NB193_198 := n5_; have NB198_193 := n6_; clear n0_ n1_ n2_ n3_ n4_ n5_ n6_; clear hb hbox hg) | ((with_reducible refine gate_dst (N := 8) rfl ?_); refine box_event ?hg (N := 8) ?hd (cs := #[.int .i64 0, .int .i64 0]) (t := 49) ?hr ?_; (case hd => rfl); (case hg => rfl); (case hr => first | (go_simp; done) | (go_simp; rfl)); intro gb199 hg w35 hbox hb; have n0_ := a_ (bb_ BK193.out hb); have n1_ := a_ (bb_ BK198.out hb); have n2_ := a_ (below_step bl_ hb); have n3_ := a_ (hbox); have n4_ := a_ ((bz_ (w := w) hg)); have n5_ := a_ ((bz_ (w := w) hg)); have n6_ := a_ ((nl_ BK193.out hg)); have n7_ := a_ ((ng_ BK193.out hg)); have n8_ := a_ ((nl_ BK198.out hg)); have n9_ := a_ ((ng_ BK198.out hg)); clear BK193; clear BK198; clear HB; have BK193 := n0_; have BK198 := n1_; have HB := n2_; have BK199 := n3_; have GW199 := n4_; have GE199 := n5_; have NB193_199 := n6_; have NB199_193 := n7_; have NB198_199 := n8_; have NB199_198 := n9_; clear n0_ n1_ n2_ n3_ n4_ n5_ n6_ n7_ n8_ n9_; clear hb hbox hg; have hnb36 := NB198_193.out; have hnc36 := NB193_198.out; have hnb37 := NB198_199.out; have hnc37 := NB199_198.out; have hcz38_0 : w35.cell? ⟨gb198, 0, none⟩ = some (.int .i64 0) := (blk_cell BK198.out 0).trans rfl; have hcz38_1 : w35.cell? ⟨gb198, 1, none⟩ = some (.int .i64 0) := (blk_cell BK198.out 1).trans rfl; have hfz38_0 := blk_frozen BK198.out 0; have hfz38_1 := blk_frozen BK198.out 1; have hnb39 := NB199_193.out; have hnc39 := NB193_199.out; have hcz40_0 : w35.cell? ⟨gb199, 0, none⟩ = some (.int .i64 0) := (blk_cell BK199.out 0).trans rfl; have hcz40_1 : w35.cell? ⟨gb199, 1, none⟩ = some (.int .i64 0) := (blk_cell BK199.out 1).trans rfl; have hfz40_0 := blk_frozen BK199.out 0; have hfz40_1 := blk_frozen BK199.out 1) | ((with_reducible refine gate_dst (N := 9) rfl ?_); refine box_event ?hg (N := 9) ?hd (cs := #[.int .i64 0, .int .i64 0]) (t := 49) ?hr ?_; (case hd => rfl); (case hg => rfl); (case hr => first | (go_simp; done) | (go_simp; rfl)); intro gb200 hg w41 hbox hb; have n0_ := a_ (blk_below (g := gb193) (o := .cells #[.int .i64 0, .int .i64 0] 49 (0, 0)) (by (with_reducible repeat (first | refine blk_drewN ?_ _ | refine blk_drew ?_ | refine blk_alloc ?_ _)); refine blk_far ?_ NB193_199.out _; (with_reducible repeat (first | refine blk_drewN ?_ _ | refine blk_drew ?_ | refine blk_alloc ?_ _)); refine blk_far ?_ NB193_199.out _; (with_reducible repeat (first | refine blk_drewN ?_ _ | refine blk_drew ?_ | refine blk_alloc ?_ _)); refine blk_far ?_ NB193_198.out _; (with_reducible repeat (first | refine blk_drewN ?_ _ | refine blk_drew ?_ | refine blk_alloc ?_ _)); refine blk_far ?_ NB193_198.out _; (with_reducible repeat (first | refine blk_drewN ?_ _ | refine blk_drew ?_ | refine blk_alloc ?_ _)); exact BK193.out) hb); have n1_ := a_ (blk_below (g := gb198) (o := .cells #[.int .i64 t194, .int .i64 t195] 49 (0, 0)) (by (with_reducible repeat (first | refine blk_drewN ?_ _ | refine blk_drew ?_ | refine blk_alloc ?_ _)); refine blk_far ?_ NB198_199.out _; (with_reducible repeat (first | refine blk_drewN ?_ _ | refine blk_drew ?_ | refine blk_alloc ?_ _)); refine blk_far ?_ NB198_199.out _; (with_reducible repeat (first | refine blk_drewN ?_ _ | refine blk_drew ?_ | refine blk_alloc ?_ _)); refine blk_put (cs := #[.int .i64 t194, .int .i64 0]) ?_ 1 _ rfl; (with_reducible repeat (first | refine blk_drewN ?_ _ | refine blk_drew ?_ | refine blk_alloc ?_ _)); refine blk_put (cs := #[.int .i64 0, .int .i64 0]) ?_ 0 _ rfl; (with_reducible repeat (first | refine blk_drewN ?_ _ | refine blk_drew ?_ | refine blk_alloc ?_ _)); exact BK198.out) hb); have n2_ := a_ (blk_below (g := gb199) (o := .cells #[.int .i64 t196, .int .i64 t197] 49 (0, 0)) (by (with_reducible repeat (first | refine blk_drewN ?_ _ | refine blk_drew ?_ | refine blk_alloc ?_ _)); refine blk_put (cs := #[.int .i64 t196, .int .i64 0]) ?_ 1 _ rfl; (with_reducible repeat (first | refine blk_drewN ?_ _ | refine blk_drew ?_ | refine blk_alloc ?_ _)); refine blk_put (cs := #[.int .i64 0, .int .i64 0]) ?_ 0 _ rfl; (with_reducible repeat (first | refine blk_drewN ?_ _ | refine blk_drew ?_ | refine blk_alloc ?_ _)); refine blk_far ?_ NB199_198.out _; (with_reducible repeat (first | refine blk_drewN ?_ _ | refine blk_drew ?_ | refine blk_alloc ?_ _)); refine blk_far ?_ NB199_198.out _; (with_reducible repeat (first | refine blk_drewN ?_ _ | refine blk_drew ?_ | refine blk_alloc ?_ _)); exact BK199.out) hb); have n3_ := a_ (below_step bl_ hb); have n4_ := a_ (hbox); have n5_ := a_ ((bz_ (w := w) hg)); have n6_ := a_ ((bz_ (w := w) hg)); have n7_ := a_ ((by rw [hg]; exact Nat.ne_of_lt (blk_lt (g := gb193) (o := .cells #[.int .i64 0, .int .i64 0] 49 (0, 0)) (by (with_reducible repeat (first | refine blk_drewN ?_ _ | refine blk_drew ?_ | refine blk_alloc ?_ _)); refine blk_far ?_ NB193_199.out _; (with_reducible repeat (first | refine blk_drewN ?_ _ | refine blk_drew ?_ | refine blk_alloc ?_ _)); refine blk_far ?_ NB193_199.out _; (with_reducible repeat (first | refine blk_drewN ?_ _ | refine blk_drew ?_ | refine blk_alloc ?_ _)); refine blk_far ?_ NB193_198.out _; (with_reducible repeat (first | refine blk_drewN ?_ _ | refine blk_drew ?_ | refine blk_alloc ?_ _)); refine blk_far ?_ NB193_198.out _; (with_reducible repeat (first | refine blk_drewN ?_ _ | refine blk_drew ?_ | refine blk_alloc ?_ _)); exact BK193.out)) : gb193 ≠ gb200)); have n8_ := a_ ((by rw [hg]; exact Nat.ne_of_gt (blk_lt (g := gb193) (o := .cells #[.int .i64 0, .int .i64 0] 49 (0, 0)) (by (with_reducible repeat (first | refine blk_drewN ?_ _ | refine blk_drew ?_ | refine blk_alloc ?_ _)); refine blk_far ?_ NB193_199.out _; (with_reducible repeat (first | refine blk_drewN ?_ _ | refine blk_drew ?_ | refine blk_alloc ?_ _)); refine blk_far ?_ NB193_199.out _; (with_reducible repeat (first | refine blk_drewN ?_ _ | refine blk_drew ?_ | refine blk_alloc ?_ _)); refine blk_far ?_ NB193_198.out _; (with_reducible repeat (first | refine blk_drewN ?_ _ | refine blk_drew ?_ | refine blk_alloc ?_ _)); refine blk_far ?_ NB193_198.out _; (with_reducible repeat (first | refine blk_drewN ?_ _ | refine blk_drew ?_ | refine blk_alloc ?_ _)); exact BK193.out)) : gb200 ≠ gb193)); have n9_ := a_ ((by rw [hg]; exact Nat.ne_of_lt (blk_lt (g := gb198) (o := .cells #[.int .i64 t194, .int .i64 t195] 49 (0, 0)) (by (with_reducible repeat (first | refine blk_drewN ?_ _ | refine blk_drew ?_ | refine blk_alloc ?_ _)); refine blk_far ?_ NB198_199.out _; (with_reducible repeat (first | refine blk_drewN ?_ _ | refine blk_drew ?_ | refine blk_alloc ?_ _)); refine blk_far ?_ NB198_199.out _; (with_reducible repeat (first | refine blk_drewN ?_ _ | refine blk_drew ?_ | refine blk_alloc ?_ _)); refine blk_put (cs := #[.int .i64 t194, .int .i64 0]) ?_ 1 _ rfl; (with_reducible repeat (first | refine blk_drewN ?_ _ | refine blk_drew ?_ | refine blk_alloc ?_ _)); refine blk_put (cs := #[.int .i64 0, .int .i64 0]) ?_ 0 _ rfl; (with_reducible repeat (first | refine blk_drewN ?_ _ | refine blk_drew ?_ | refine blk_alloc ?_ _)); exact BK198.out)) : gb198 ≠ gb200)); have n10_ := a_ ((by rw [hg]; exact Nat.ne_of_gt (blk_lt (g := gb198) (o := .cells #[.int .i64 t194, .int .i64 t195] 49 (0, 0)) (by (with_reducible repeat (first | refine blk_drewN ?_ _ | refine blk_drew ?_ | refine blk_alloc ?_ _)); refine blk_far ?_ NB198_199.out _; (with_reducible repeat (first | refine blk_drewN ?_ _ | refine blk_drew ?_ | refine blk_alloc ?_ _)); refine blk_far ?_ NB198_199.out _; (with_reducible repeat (first | refine blk_drewN ?_ _ | refine blk_drew ?_ | refine blk_alloc ?_ _)); refine blk_put (cs := #[.int .i64 t194, .int .i64 0]) ?_ 1 _ rfl; (with_reducible repeat (first | refine blk_drewN ?_ _ | refine blk_drew ?_ | refine blk_alloc ?_ _)); refine blk_put (cs := #[.int .i64 0, .int .i64 0]) ?_ 0 _ rfl; (with_reducible repeat (first | refine blk_drewN ?_ _ | refine blk_drew ?_ | refine blk_alloc ?_ _)); exact BK198.out)) : gb200 ≠ gb198)); have n11_ := a_ ((by rw [hg]; exact Nat.ne_of_lt (blk_lt (g := gb199) (o := .cells #[.int .i64 t196, .int .i64 t197] 49 (0, 0)) (by (with_reducible repeat (first | refine blk_drewN ?_ _ | refine blk_drew ?_ | refine blk_alloc ?_ _)); refine blk_put (cs := #[.int .i64 t196, .int .i64 0]) ?_ 1 _ rfl; (with_reducible repeat (first | refine blk_drewN ?_ _ | refine blk_drew ?_ | refine blk_alloc ?_ _)); refine blk_put (cs := #[.int .i64 0, .int .i64 0]) ?_ 0 _ rfl; (with_reducible repeat (first | refine blk_drewN ?_ _ | refine blk_drew ?_ | refine blk_alloc ?_ _)); refine blk_far ?_ NB199_198.out _; (with_reducible repeat (first | refine blk_drewN ?_ _ | refine blk_drew ?_ | refine blk_alloc ?_ _)); refine blk_far ?_ NB199_198.out _; (with_reducible repeat (first | refine blk_drewN ?_ _ | refine blk_drew ?_ | refine blk_alloc ?_ _)); exact BK199.out)) : gb199 ≠ gb200)); have n12_ := a_ ((by rw [hg]; exact Nat.ne_of_gt (blk_lt (g := gb199) (o := .cells #[.int .i64 t196, .int .i64 t197] 49 (0, 0)) (by (with_reducible repeat (first | refine blk_drewN ?_ _ | refine blk_drew ?_ | refine blk_alloc ?_ _)); refine blk_put (cs := #[.int .i64 t196, .int .i64 0]) ?_ 1 _ rfl; (with_reducible repeat (first | refine blk_drewN ?_ _ | refine blk_drew ?_ | refine blk_alloc ?_ _)); refine blk_put (cs := #[.int .i64 0, .int .i64 0]) ?_ 0 _ rfl; (with_reducible repeat (first | refine blk_drewN ?_ _ | refine blk_drew ?_ | refine blk_alloc ?_ _)); refine blk_far ?_ NB199_198.out _; (with_reducible repeat (first | refine blk_drewN ?_ _ | refine blk_drew ?_ | refine blk_alloc ?_ _)); refine blk_far ?_ NB199_198.out _; (with_reducible repeat (first | refine blk_drewN ?_ _ | refine blk_drew ?_ | refine blk_alloc ?_ _)); exact BK199.out)) : gb200 ≠ gb199)); clear BK193; clear BK198; clear BK199; clear HB; have BK193 := n0_; have BK198 := n1_; have BK199 := n2_; have HB := n3_; have BK200 := n4_; have GW200 := n5_; have GE200 := n6_; have NB193_200 := n7_; have NB200_193 := n8_; have NB198_200 := n9_; have NB200_198 := n10_; have NB199_200 := n11_; have NB200_199 := n12_; clear n0_ n1_ n2_ n3_ n4_ n5_ n6_ n7_ n8_ n9_ n10_ n11_ n12_; clear hb hbox hg; have hnb42 := NB198_200.out; have hnc42 := NB200_198.out; have hcz43_0 : w41.cell? ⟨gb198, 0, none⟩ = some (.int .i64 t194) := (blk_cell BK198.out 0).trans rfl; have hcz43_1 : w41.cell? ⟨gb198, 1, none⟩ = some (.int .i64 t195) := (blk_cell BK198.out 1).trans rfl; have hfz43_0 := blk_frozen BK198.out 0; have hfz43_1 := blk_frozen BK198.out 1; have hnb44 := NB199_200.out; have hnc44 := NB200_199.out; have hcz45_0 : w41.cell? ⟨gb199, 0, none⟩ = some (.int .i64 t196) := (blk_cell BK199.out 0).trans rfl; have hcz45_1 : w41.cell? ⟨gb199, 1, none⟩ = some (.int .i64 t197) := (blk_cell BK199.out 1).trans rfl; have hfz45_0 := blk_frozen BK199.out 0; have hfz45_1 := blk_frozen BK199.out 1; have hnb46 := NB200_193.out; have hnc46 := NB193_200.out; have hcz47_0 : w41.cell? ⟨gb200, 0, none⟩ = some (.int .i64 0) := (blk_cell BK200.out 0).trans rfl; have hcz47_1 : w41.cell? ⟨gb200, 1, none⟩ = some (.int .i64 0) := (blk_cell BK200.out 1).trans rfl; have hfz47_0 := blk_frozen BK200.out 0; have hfz47_1 := blk_frozen BK200.out 1; have hcz48_0 : w41.cell? ⟨gb193, 0, none⟩ = some (.int .i64 0) := (blk_cell BK193.out 0).trans rfl; have hcz48_1 : w41.cell? ⟨gb193, 1, none⟩ = some (.int .i64 0) := (blk_cell BK193.out 1).trans rfl; have hfz48_0 := blk_frozen BK193.out 0; have hfz48_1 := blk_frozen BK193.out 1))
  refine bodyPost_ret (results_cell_row rfl _ _ gb193 49 #[.int .i64 ji29, .int .i64 ji30] (0, 0) _ rfl (by (with_reducible repeat (first | refine blk_drewN ?_ _ | refine blk_drew ?_ | refine blk_alloc ?_ _)); refine blk_put (cs := #[.int .i64 ji29, .int .i64 0]) ?_ 1 _ rfl; (with_reducible repeat (first | refine blk_drewN ?_ _ | refine blk_drew ?_ | refine blk_alloc ?_ _)); refine blk_put (cs := #[.int .i64 0, .int .i64 0]) ?_ 0 _ rfl; (with_reducible repeat (first | refine blk_drewN ?_ _ | refine blk_drew ?_ | refine blk_alloc ?_ _)); exact BK193.out) Tryd.underlying49 rfl (by kernel_rfl)) rfl ?_
  exact ⟨by first | rfl | (simp [errW_none, errW_some] <;> rfl) | (simp only [← hji29, ← hji30]; first | rfl | (simp [errW_none, errW_some] <;> rfl)) | (simp [*, errW_none, errW_some] <;> rfl), bl_⟩
def refill_Closed.l0 : Nat → List (S51) → List (S51) → Int → Int → Option ((List (S51)) × Int)
 | 0, _, _, _, _ => none
 | k + 1, x0, x5, x13, x14 => if x14 < x13 then ((refill_between.f k x0 (wrap64 (x14 - 1)) x14).bind fun bt204 => ((refill_time.f x0 x14).bind fun bt206 => (if x5.length < 4398046511104 then (refill_Closed.l0 k x0 (x5 ++ [(⟨(⟨bt204.1, bt204.2⟩ : S49), (⟨bt206.1, bt206.2⟩ : S49)⟩ : S51)]) x13 (wrap64 (x14 + 1))) else (none)))) else (some (x5, 0))
def refill_Closed.f (k : Nat) (l0 : List (S51)) : Option ((List (S51)) × Int) := (refill_ready.f k l0 0 ([] : List Int)).bind fun t203 => (if t203 = 0 then (refill_Closed.l0 k l0 ([] : List (S51)) (l0.length : Int) 0) else (some (([] : List (S51)), t203)))
theorem refill_Closed.mono_l : ∀ k, (∀ y0 y1 y2 y3, LeO (refill_Closed.l0 k y0 y1 y2 y3) (refill_Closed.l0 (k + 1) y0 y1 y2 y3))
 | 0 => fun _ _ _ _ r h => by simp [refill_Closed.l0] at h
 | k + 1 => by
  have ih0 := refill_Closed.mono_l k
  ·intro y0 y1 y2 y3
   unfold refill_Closed.l0
   repeat' first
   | (with_reducible exact ih0 _ _ _ _)
   | (with_reducible exact refill_between.mono _ _ _ _)
   | (with_reducible exact refill_ready.mono _ _ _ _)
   | (with_reducible exact LeO.refl _)
   | (with_reducible exact LeO.none _)
   | (with_reducible refine LeO.ite ?_ ?_)
   | (with_reducible refine LeO.bind ?_ (fun _ => ?_))
   | exact ih0 _ _ _ _
   | exact refill_between.mono _ _ _ _
   | exact refill_ready.mono _ _ _ _
   | exact LeO.none _
   | refine LeO.ite ?_ ?_
   | refine LeO.bind ?_ (fun _ => ?_)
theorem refill_Closed.mono : ∀ a0 k, LeO (refill_Closed.f k a0) (refill_Closed.f (k + 1) a0) := by
 intro a0 k
 have ih0 := refill_Closed.mono_l k
 unfold refill_Closed.f
 repeat' first
   | (with_reducible exact ih0 _ _ _ _)
   | (with_reducible exact refill_between.mono _ _ _ _)
   | (with_reducible exact refill_ready.mono _ _ _ _)
   | (with_reducible exact LeO.refl _)
   | (with_reducible exact LeO.none _)
   | (with_reducible refine LeO.ite ?_ ?_)
   | (with_reducible refine LeO.bind ?_ (fun _ => ?_))
   | exact ih0 _ _ _ _
   | exact refill_between.mono _ _ _ _
   | exact refill_ready.mono _ _ _ _
   | exact LeO.none _
   | refine LeO.ite ?_ ?_
   | refine LeO.bind ?_ (fun _ => ?_)
set_option maxHeartbeats 8000000 in
set_option maxRecDepth 100000 in
theorem refill_Closed.calls (k : Nat) (A0 : Option Addr) (c0 : Nat) (l0 : List (S51)) (r1 : List (S51)) (r2 : Int) (w : World) (hr0 : Kd.C k51 w A0 l0.length l0) (hc0 : l0.length ≤ c0) (h : refill_Closed.f k l0 = some (r1, r2)) :
  Calls Tryd.prog 32 #[.slice A0 l0.length c0] w fun e w' => ∃ v0_ : Value, e = .returned (.tuple #[v0_, .int .i64 r2]) ∧ Kd.R k51 51 w' w.heap.size (fun _ => True) v0_ r1 ∧ Below w.heap.size w w' := by
 have hu51 := Tryd.underlying51
 have HR0 := a_ hr0
 have HC0 := a_ hc0
 clear hr0 hc0
 have HB := a_ (Below.refl w.heap.size w)
 have H : ((refill_ready.f k l0 0 ([] : List Int)).bind fun t203 => (if t203 = 0 then (refill_Closed.l0 k l0 ([] : List (S51)) (l0.length : Int) 0) else (some (([] : List (S51)), t203)))) = some (r1, r2) := h
 clear h
 replace H := Option.bind_eq_some_iff.mp H
 obtain ⟨t203, A20, H⟩ := H
 replace H : (if t203 = 0 then (refill_Closed.l0 k l0 ([] : List (S51)) (l0.length : Int) 0) else (some (([] : List (S51)), t203))) = some (r1, r2) := H
 have A2 := a_ A20
 clear A20
 by_cases c3 : t203 = 0
 ·rw [if_pos c3] at H
  have c3b0 : (t203 == 0) = true := beq_iff_eq.mpr c3
  have c3b1 : (t203 != 0) = false := bne_eq_false_iff_eq.mpr c3
  clear c3
  have H' := a_ H
  clear H
  go_enter Tryd.func32, Tryd.ntmps32
  go_wp2_with (first | ((with_reducible refine gate_callee (f := 72) rfl ?_); refine goesL_ (some 8) rfl rfl Tryd.func72 (by kernel_rfl) rfl #[.slice A0 l0.length c0, .int .i64 0, .slice none 0 0] rfl tm_ ?_; (refine (refill_ready.calls k _ _ l0 0 _ _ ([] : List Int) t203 _ ?side1 ?side2 ?side3 ?side4 A2.out).mono ?_); (case side1 => exact cl_ HR0.out); (case side2 => exact HC0.out); (case side3 => exact Kd.C_nil _ _); (case side4 => exact Nat.le_refl _); rintro e w4 ⟨rfl, hb⟩; refine ⟨_, rfl, ?_⟩; have n0_ := a_ (below_step bl_ hb); clear HB; have HB := n0_; clear n0_; (try clear hb); (try clear hb2); (try clear hk); (try clear hi)))
  go_loopg [5, 14] k (fun kq v5 v14 w' => ∃ (x5_1 : List (S51)) (x14_1 : Int), v14 = .int .i64 x14_1 ∧ Aside0 (refill_Closed.l0 kq l0 x5_1 (l0.length : Int) x14_1 = some (r1, r2)) ∧ Aside0 (kq ≤ k) ∧ Aside0 (Kd.R k51 51 w' w.heap.size (fun _ => True) v5 x5_1) ∧ Aside0 (Below w.heap.size w w'))
  case atStart => exact ⟨(([] : List (S51))), (0), (by first | rfl | (simp; done) | (simp [*]; done)), H', ⟨Nat.le_refl _⟩, ⟨by first | exact Kd.R_nil _ _ _ _ _ | exact Kd.N_nil _ _ _ _ _ | exact Kd.V_nil _ _ _ _ _ | exact Kd.Q_nil _ _ _ _ _ | exact Kd.S_nil _ _ _ _ _⟩, ⟨bl_⟩⟩
  case round =>
   clear H'
   try clear p2
   try clear c3
   try clear c3b0
   try clear c3b1
   obtain ⟨x5_1, x14_1, rfl, HA, HK1, HO_5, HB⟩ := hrel
   cases gk with
   | zero => exact absurd HA.out (by simp [refill_Closed.l0])
   | succ k1 =>
    have H := HA.out
    clear HA
    simp only [refill_Closed.l0] at H
    by_cases c5 : x14_1 < (l0.length : Int)
    ·rw [if_pos c5] at H
     have c5b0 : decide (x14_1 < (l0.length : Int)) = true := decide_eq_true c5
     clear c5
     replace H := Option.bind_eq_some_iff.mp H
     obtain ⟨⟨t204, t205⟩, A60, H⟩ := H
     replace H : ((refill_time.f l0 x14_1).bind fun bt206 => (if x5_1.length < 4398046511104 then (refill_Closed.l0 k1 l0 (x5_1 ++ [(⟨(⟨t204, t205⟩ : S49), (⟨bt206.1, bt206.2⟩ : S49)⟩ : S51)]) (l0.length : Int) (wrap64 (x14_1 + 1))) else (none))) = some (r1, r2) := H
     have A6 := a_ A60
     clear A60
     replace H := Option.bind_eq_some_iff.mp H
     obtain ⟨⟨t206, t207⟩, A70, H⟩ := H
     replace H : (if x5_1.length < 4398046511104 then (refill_Closed.l0 k1 l0 (x5_1 ++ [(⟨(⟨t204, t205⟩ : S49), (⟨t206, t207⟩ : S49)⟩ : S51)]) (l0.length : Int) (wrap64 (x14_1 + 1))) else (none)) = some (r1, r2) := H
     have A7 := a_ A70
     clear A70
     by_cases c8 : x5_1.length < 4398046511104
     ·rw [if_pos c8] at H
      have LMc8 := a_ c8
      clear c8
      obtain ⟨y208, hy208⟩ : ∃ y_ : List (S51), y_ = (x5_1 ++ [(⟨(⟨t204, t205⟩ : S49), (⟨t206, t207⟩ : S49)⟩ : S51)]) := ⟨_, rfl⟩
      replace H : (refill_Closed.l0 k1 l0 y208 (l0.length : Int) (wrap64 (x14_1 + 1))) = some (r1, r2) := by first | (rw [hy208]; with_reducible exact H) | (have H2_ := (Option.bind_some _ _).symm.trans H; rw [hy208]; with_reducible exact H2_) | (have H2_ := (Option.bind_some _ _).symm.trans H; with_reducible exact H2_) | with_reducible exact H | (rw [hy208]; exact H) | exact H
      have Ny208 := a_ hy208
      clear hy208
      have H' := a_ H
      clear H
      go_wp2_with (first | ((with_reducible refine gate_callee (f := 81) rfl ?_); refine goesL_ (some 22) rfl rfl Tryd.func81 (by kernel_rfl) rfl #[.slice A0 l0.length c0, .int .i64 (wrap64 (x14_1 - 1)), .int .i64 x14_1] rfl tm_ ?_; (with_reducible refine (refill_between.calls k1 _ _ l0 (wrap64 (x14_1 - 1)) x14_1 t204 t205 _ ?side1 ?side2 A6.out).mono ?_); (case side1 => exact cl_ (Kd.C_below HR0.out HB.out)); (case side2 => exact HC0.out); rintro e w9 ⟨rfl, hb⟩; refine ⟨_, rfl, ?_⟩; have n0_ := a_ (Kd.R_below (rl_ HO_5.out) hb); have n1_ := a_ (below_step bl_ hb); clear HO_5; clear HB; have HO_5 := n0_; have HB := n1_; clear n0_ n1_; (try clear hb); (try clear hb2); (try clear hk); (try clear hi)) | ((with_reducible refine gate_callee (f := 65) rfl ?_); refine goesL_ (some 25) rfl rfl Tryd.func65 (by kernel_rfl) rfl #[.slice A0 l0.length c0, .int .i64 x14_1] rfl tm_ ?_; (with_reducible refine (refill_time.calls _ _ l0 x14_1 t206 t207 _ ?side1 ?side2 A7.out).mono ?_); (case side1 => exact cl_ (Kd.C_below HR0.out HB.out)); (case side2 => exact HC0.out); rintro e w10 ⟨rfl, hb⟩; refine ⟨_, rfl, ?_⟩; have n0_ := a_ (Kd.R_below (rl_ HO_5.out) hb); have n1_ := a_ (below_step bl_ hb); clear HO_5; clear HB; have HO_5 := n0_; have HB := n1_; clear n0_ n1_; (try clear hb); (try clear hb2); (try clear hk); (try clear hi)) | ((with_reducible refine gate_builtin (b := .append) (xs := #[.tmp 17, .tmp 27]) rfl ?_); at_builtin; refine Kd.R_append k51 (w0 := w) w.heap.size rfl (.tmp 17) (.tmp 27) 23 51 (.agg #[(.int .i64 0), (.int .i64 0), (.int .i64 0), (.int .i64 0)]) 32 rfl Tryd.underlying23 info51 rfl (by decide) (by omega) u5 x5_1 (⟨(⟨t204, t205⟩ : S49), (⟨t206, t207⟩ : S49)⟩ : S51) [.int .i64 t204, .int .i64 t205, .int .i64 t206, .int .i64 t207] (fun _ => True) (fun _ => False) rfl rfl ?aP (fun _ hk => hk.elim) ?aF ?aO ?aB ?aS ?aL ?_; (case aP => exact k51_mkM _ _ _ (⟨(⟨t204, t205⟩ : S49), (⟨t206, t207⟩ : S49)⟩ : S51)); (case aB => exact bl_); (case aF => exact (fun _ _ => trivial)); (case aO => exact (rl_ HO_5.out)); (case aS => exact (below_size bl_)); (case aL => have := LMc8.out; omega); intro v209 w11 ho hb hg hat; rw [← Ny208.out] at ho; have n0_ := a_ (hb); have n1_ := a_ (ho); clear HB; clear HO_5; have HB := n0_; have HO210 := n1_; clear n0_ n1_; clear ho hb hg hat))
      go_roundg k1
      case measure => have := HK1.out; omega
      case rel => exact ⟨(y208), (wrap64 (x14_1 + 1)), (by first | rfl | (simp; done) | (simp [*]; done)), H', ⟨by have := HK1.out; omega⟩, ⟨rl_ HO210.out⟩, ⟨bl_⟩⟩
     ·rw [if_neg c8] at H
      exact absurd H (by simp)
    ·rw [if_neg c5] at H
     have c5b0 : decide (x14_1 < (l0.length : Int)) = false := decide_eq_false c5
     clear c5
     simp only [Option.some.injEq, Prod.mk.injEq] at H
     obtain ⟨rfl, rfl⟩ := H
     go_wp2
     go_ret2
     exact ⟨_, by first | rfl | (simp [errW_none, errW_some] <;> rfl) | (simp [*, errW_none, errW_some] <;> rfl), by (with_reducible repeat (first | apply Kd.R_alloc | apply Kd.R_drewN | apply Kd.R_drew)); exact HO_5.out, bl_⟩
 ·rw [if_neg c3] at H
  have c3b0 : (t203 == 0) = false := beq_eq_false_iff_ne.mpr c3
  have c3b1 : (t203 != 0) = true := bne_iff_ne.mpr c3
  simp only [Option.some.injEq, Prod.mk.injEq] at H
  obtain ⟨rfl, rfl⟩ := H
  go_enter Tryd.func32, Tryd.ntmps32
  go_wp2_with (first | ((with_reducible refine gate_callee (f := 72) rfl ?_); refine goesL_ (some 8) rfl rfl Tryd.func72 (by kernel_rfl) rfl #[.slice A0 l0.length c0, .int .i64 0, .slice none 0 0] rfl tm_ ?_; (refine (refill_ready.calls k _ _ l0 0 _ _ ([] : List Int) t203 _ ?side1 ?side2 ?side3 ?side4 A2.out).mono ?_); (case side1 => exact cl_ HR0.out); (case side2 => exact HC0.out); (case side3 => exact Kd.C_nil _ _); (case side4 => exact Nat.le_refl _); rintro e w12 ⟨rfl, hb⟩; refine ⟨_, rfl, ?_⟩; have n0_ := a_ (below_step bl_ hb); clear HB; have HB := n0_; clear n0_; (try clear hb); (try clear hb2); (try clear hk); (try clear hi)))
  go_ret2
  exact ⟨_, by first | rfl | (simp [errW_none, errW_some] <;> rfl) | (simp [*, errW_none, errW_some] <;> rfl), by first | exact Kd.R_nil _ _ _ _ _ | exact Kd.N_nil _ _ _ _ _ | exact Kd.V_nil _ _ _ _ _ | exact Kd.Q_nil _ _ _ _ _ | exact Kd.S_nil _ _ _ _ _, bl_⟩
def refill_Between.f (k : Nat) (l0 : List (S51)) (a1 : Int) (a2 : Int) : Option (Int × Int × Int) := (refill_event.f k l0 (-1) (([a1, a2] : List Int))).bind fun t215 => (if t215 = 0 then (if a1 ≥ a2 then (some (0, 0, 1)) else ((refill_possible.f l0).bind fun t216 => (if t216 = true then ((refill_between.f k l0 a1 a2).bind fun bt217 => (some (bt217.1, bt217.2, 0))) else (some (0, 0, 31))))) else (some (0, 0, t215)))
theorem refill_Between.mono : ∀ a0 a1 a2 k, LeO (refill_Between.f k a0 a1 a2) (refill_Between.f (k + 1) a0 a1 a2) := by
 intro a0 a1 a2 k
 unfold refill_Between.f
 repeat' first
   | (with_reducible exact refill_between.mono _ _ _ _)
   | (with_reducible exact refill_event.mono _ _ _ _)
   | (with_reducible exact LeO.refl _)
   | (with_reducible exact LeO.none _)
   | (with_reducible refine LeO.ite ?_ ?_)
   | (with_reducible refine LeO.bind ?_ (fun _ => ?_))
   | exact refill_between.mono _ _ _ _
   | exact refill_event.mono _ _ _ _
   | exact LeO.none _
   | refine LeO.ite ?_ ?_
   | refine LeO.bind ?_ (fun _ => ?_)
set_option maxHeartbeats 8000000 in
set_option maxRecDepth 100000 in
theorem refill_Between.calls (k : Nat) (A0 : Option Addr) (c0 : Nat) (l0 : List (S51)) (a1 : Int) (a2 : Int) (r1 : Int) (r2 : Int) (r3 : Int) (w : World) (hr0 : Kd.C k51 w A0 l0.length l0) (hc0 : l0.length ≤ c0) (h : refill_Between.f k l0 a1 a2 = some (r1, r2, r3)) :
  Calls Tryd.prog 44 #[.slice A0 l0.length c0, .int .i64 a1, .int .i64 a2] w fun e w' => e = .returned (.tuple #[.agg #[.int .i64 r1, .int .i64 r2], .int .i64 r3]) ∧ Below w.heap.size w w' := by
 have hu49 := Tryd.underlying49
 have HR0 := a_ hr0
 have HC0 := a_ hc0
 clear hr0 hc0
 have HB := a_ (Below.refl w.heap.size w)
 have H : ((refill_event.f k l0 (-1) (([a1, a2] : List Int))).bind fun t215 => (if t215 = 0 then (if a1 ≥ a2 then (some (0, 0, 1)) else ((refill_possible.f l0).bind fun t216 => (if t216 = true then ((refill_between.f k l0 a1 a2).bind fun bt217 => (some (bt217.1, bt217.2, 0))) else (some (0, 0, 31))))) else (some (0, 0, t215)))) = some (r1, r2, r3) := h
 clear h
 obtain ⟨y212, hy212⟩ : ∃ y_ : List Int, y_ = (([a1, a2] : List Int)) := ⟨_, rfl⟩
 replace H : ((refill_event.f k l0 (-1) y212).bind fun t215 => (if t215 = 0 then (if a1 ≥ a2 then (some (0, 0, 1)) else ((refill_possible.f l0).bind fun t216 => (if t216 = true then ((refill_between.f k l0 a1 a2).bind fun bt217 => (some (bt217.1, bt217.2, 0))) else (some (0, 0, 31))))) else (some (0, 0, t215)))) = some (r1, r2, r3) := by first | (rw [hy212]; with_reducible exact H) | (have H2_ := (Option.bind_some _ _).symm.trans H; rw [hy212]; with_reducible exact H2_) | (have H2_ := (Option.bind_some _ _).symm.trans H; with_reducible exact H2_) | with_reducible exact H | (rw [hy212]; exact H) | exact H
 have Ny212 := a_ hy212
 clear hy212
 replace H := Option.bind_eq_some_iff.mp H
 obtain ⟨t215, A40, H⟩ := H
 replace H : (if t215 = 0 then (if a1 ≥ a2 then (some (0, 0, 1)) else ((refill_possible.f l0).bind fun t216 => (if t216 = true then ((refill_between.f k l0 a1 a2).bind fun bt217 => (some (bt217.1, bt217.2, 0))) else (some (0, 0, 31))))) else (some (0, 0, t215))) = some (r1, r2, r3) := H
 have A4 := a_ A40
 clear A40
 by_cases c5 : t215 = 0
 ·rw [if_pos c5] at H
  have c5b0 : (t215 == 0) = true := beq_iff_eq.mpr c5
  have c5b1 : (t215 != 0) = false := bne_eq_false_iff_eq.mpr c5
  clear c5
  by_cases c6 : a1 ≥ a2
  ·rw [if_pos c6] at H
   have c6b0 : decide (a2 ≤ a1) = true := decide_eq_true c6
   clear c6
   simp only [Option.some.injEq, Prod.mk.injEq] at H
   obtain ⟨rfl, rfl, rfl⟩ := H
   go_enter Tryd.func44, Tryd.ntmps44
   go_wp2_with (first | ((with_reducible refine gate_dst (N := 6) rfl ?_); refine box_event ?hg (N := 6) ?hd (cs := #[.int .i64 0, .int .i64 0]) (t := 49) ?hr ?_; (case hd => rfl); (case hg => rfl); (case hr => first | (go_simp; done) | (go_simp; rfl)); intro gb211 hg w7 hbox hb; have n0_ := a_ (below_step bl_ hb); have n1_ := a_ (hbox); have n2_ := a_ ((bz_ (w := w) hg)); have n3_ := a_ ((bz_ (w := w) hg)); clear HB; have HB := n0_; have BK211 := n1_; have GW211 := n2_; have GE211 := n3_; clear n0_ n1_ n2_ n3_; clear hb hbox hg) | ((with_reducible refine gate_dst (N := 12) rfl ?_); refine Kd.R_lit (Kd.int .i64) _ 3 ?hg (N := 12) ?hd (xs := ([a1, a2] : List Int)) (inner := [.int .i64 a1, .int .i64 a2]) (ok := fun _ => True) (okp := fun _ => True) ?hr ?hp (fun _ hk => hk) trivial (Below.refl _ _) (Nat.le_refl _) (by simp) ?_; (case hd => rfl); (case hg => rfl); (case hr => first | (go_simp; done) | (go_simp; rfl)); (case hp => exact (Reps.one (show Kd.M (Kd.int .i64) _ _ _ a1 [.int .i64 a1] from rfl) (Reps.one (show Kd.M (Kd.int .i64) _ _ _ a2 [.int .i64 a2] from rfl) (Reps.none _ _)))); intro v213 w8 ho9 hb hg_ hnew_; clear hg_ hnew_; (first | rw [← Ny212.out] at ho9 | (simp only [Int.reduceToNat] at ho9; rw [← Ny212.out] at ho9)); have n0_ := a_ (Kd.R_lower ho9 (below_size bl_)); have n1_ := a_ (bb_ BK211.out hb); have n2_ := a_ (below_step bl_ hb); clear BK211; clear HB; have HO214 := n0_; have BK211 := n1_; have HB := n2_; clear n0_ n1_ n2_; clear hb ho9; obtain ⟨Ao10, co10, eo10⟩ := Kd.R_slice HO214.out; subst eo10) | ((with_reducible refine gate_callee (f := 63) rfl ?_); refine goesL_ (some 13) rfl rfl Tryd.func63 (by kernel_rfl) rfl #[.slice A0 l0.length c0, .int .i64 (-1), .slice Ao10 y212.length co10] rfl tm_ ?_; (with_reducible refine (refill_event.calls k _ _ l0 (-1) _ _ y212 t215 _ ?side1 ?side2 ?side3 ?side4 A4.out).mono ?_); (case side1 => exact cl_ (Kd.C_below HR0.out HB.out)); (case side2 => exact HC0.out); (case side3 => exact cl_ ((Kd.R_reads' HO214.out).2.2)); (case side4 => exact (Kd.R_reads' HO214.out).2.1); rintro e w11 ⟨rfl, hb⟩; refine ⟨_, rfl, ?_⟩; have n0_ := a_ (Kd.R_below (rl_ HO214.out) hb); have n1_ := a_ (bb_ BK211.out hb); have n2_ := a_ (below_step bl_ hb); clear HO214; clear BK211; clear HB; have HO214 := n0_; have BK211 := n1_; have HB := n2_; clear n0_ n1_ n2_; (try clear hb); (try clear hb2); (try clear hk); (try clear hi); have hcz12_0 : w11.cell? ⟨gb211, 0, none⟩ = some (.int .i64 0) := (blk_cell BK211.out 0).trans rfl; have hcz12_1 : w11.cell? ⟨gb211, 1, none⟩ = some (.int .i64 0) := (blk_cell BK211.out 1).trans rfl; have hfz12_0 := blk_frozen BK211.out 0; have hfz12_1 := blk_frozen BK211.out 1))
   refine bodyPost_ret (results_ct rfl _ _ gb211 49 #[.int .i64 0, .int .i64 0] (0, 0) _ rfl (by (with_reducible repeat (first | refine blk_drewN ?_ _ | refine blk_drew ?_ | refine blk_alloc ?_ _)); refine blk_put (cs := #[.int .i64 0, .int .i64 0]) ?_ 1 _ rfl; (with_reducible repeat (first | refine blk_drewN ?_ _ | refine blk_drew ?_ | refine blk_alloc ?_ _)); refine blk_put (cs := #[.int .i64 0, .int .i64 0]) ?_ 0 _ rfl; (with_reducible repeat (first | refine blk_drewN ?_ _ | refine blk_drew ?_ | refine blk_alloc ?_ _)); exact BK211.out) Tryd.underlying49 rfl (by kernel_rfl)) rfl ?_
   exact ⟨by first | rfl | (simp [errW_none, errW_some] <;> rfl) | (simp [*, errW_none, errW_some] <;> rfl), bl_⟩
  ·rw [if_neg c6] at H
   have c6b0 : decide (a2 ≤ a1) = false := decide_eq_false c6
   clear c6
   replace H := Option.bind_eq_some_iff.mp H
   obtain ⟨t216, A130, H⟩ := H
   replace H : (if t216 = true then ((refill_between.f k l0 a1 a2).bind fun bt217 => (some (bt217.1, bt217.2, 0))) else (some (0, 0, 31))) = some (r1, r2, r3) := H
   have A13 := a_ A130
   clear A130
   by_cases c14 : t216 = true
   ·subst c14
    have H1 : ((refill_between.f k l0 a1 a2).bind fun bt217 => (some (bt217.1, bt217.2, 0))) = some (r1, r2, r3) := by rw [if_pos rfl] at H; exact H
    clear H
    have H := H1
    clear H1
    replace H := Option.bind_eq_some_iff.mp H
    obtain ⟨⟨t217, t218⟩, A150, H⟩ := H
    replace H : (some (t217, t218, 0)) = some (r1, r2, r3) := H
    have A15 := a_ A150
    clear A150
    simp only [Option.some.injEq, Prod.mk.injEq] at H
    obtain ⟨rfl, rfl, rfl⟩ := H
    go_enter Tryd.func44, Tryd.ntmps44
    go_wp2_with (first | ((with_reducible refine gate_dst (N := 6) rfl ?_); refine box_event ?hg (N := 6) ?hd (cs := #[.int .i64 0, .int .i64 0]) (t := 49) ?hr ?_; (case hd => rfl); (case hg => rfl); (case hr => first | (go_simp; done) | (go_simp; rfl)); intro gb211 hg w16 hbox hb; have n0_ := a_ (below_step bl_ hb); have n1_ := a_ (hbox); have n2_ := a_ ((bz_ (w := w) hg)); have n3_ := a_ ((bz_ (w := w) hg)); clear HB; have HB := n0_; have BK211 := n1_; have GW211 := n2_; have GE211 := n3_; clear n0_ n1_ n2_ n3_; clear hb hbox hg) | ((with_reducible refine gate_dst (N := 12) rfl ?_); refine Kd.R_lit (Kd.int .i64) _ 3 ?hg (N := 12) ?hd (xs := ([a1, a2] : List Int)) (inner := [.int .i64 a1, .int .i64 a2]) (ok := fun _ => True) (okp := fun _ => True) ?hr ?hp (fun _ hk => hk) trivial (Below.refl _ _) (Nat.le_refl _) (by simp) ?_; (case hd => rfl); (case hg => rfl); (case hr => first | (go_simp; done) | (go_simp; rfl)); (case hp => exact (Reps.one (show Kd.M (Kd.int .i64) _ _ _ a1 [.int .i64 a1] from rfl) (Reps.one (show Kd.M (Kd.int .i64) _ _ _ a2 [.int .i64 a2] from rfl) (Reps.none _ _)))); intro v213 w17 ho18 hb hg_ hnew_; clear hg_ hnew_; (first | rw [← Ny212.out] at ho18 | (simp only [Int.reduceToNat] at ho18; rw [← Ny212.out] at ho18)); have n0_ := a_ (Kd.R_lower ho18 (below_size bl_)); have n1_ := a_ (bb_ BK211.out hb); have n2_ := a_ (below_step bl_ hb); clear BK211; clear HB; have HO214 := n0_; have BK211 := n1_; have HB := n2_; clear n0_ n1_ n2_; clear hb ho18; obtain ⟨Ao19, co19, eo19⟩ := Kd.R_slice HO214.out; subst eo19) | ((with_reducible refine gate_callee (f := 63) rfl ?_); refine goesL_ (some 13) rfl rfl Tryd.func63 (by kernel_rfl) rfl #[.slice A0 l0.length c0, .int .i64 (-1), .slice Ao19 y212.length co19] rfl tm_ ?_; (with_reducible refine (refill_event.calls k _ _ l0 (-1) _ _ y212 t215 _ ?side1 ?side2 ?side3 ?side4 A4.out).mono ?_); (case side1 => exact cl_ (Kd.C_below HR0.out HB.out)); (case side2 => exact HC0.out); (case side3 => exact cl_ ((Kd.R_reads' HO214.out).2.2)); (case side4 => exact (Kd.R_reads' HO214.out).2.1); rintro e w20 ⟨rfl, hb⟩; refine ⟨_, rfl, ?_⟩; have n0_ := a_ (Kd.R_below (rl_ HO214.out) hb); have n1_ := a_ (bb_ BK211.out hb); have n2_ := a_ (below_step bl_ hb); clear HO214; clear BK211; clear HB; have HO214 := n0_; have BK211 := n1_; have HB := n2_; clear n0_ n1_ n2_; (try clear hb); (try clear hb2); (try clear hk); (try clear hi)) | ((with_reducible refine gate_callee (f := 64) rfl ?_); refine goesL_ (some 23) rfl rfl Tryd.func64 (by kernel_rfl) rfl #[.slice A0 l0.length c0] rfl tm_ ?_; (with_reducible refine (refill_possible.calls _ _ l0 true _ ?side1 ?side2 A13.out).mono ?_); (case side1 => exact cl_ (Kd.C_below HR0.out HB.out)); (case side2 => exact HC0.out); rintro e w21 ⟨rfl, hb⟩; refine ⟨_, rfl, ?_⟩; have n0_ := a_ (Kd.R_below (rl_ HO214.out) hb); have n1_ := a_ (bb_ BK211.out hb); have n2_ := a_ (below_step bl_ hb); clear HO214; clear BK211; clear HB; have HO214 := n0_; have BK211 := n1_; have HB := n2_; clear n0_ n1_ n2_; (try clear hb); (try clear hb2); (try clear hk); (try clear hi)) | ((with_reducible refine gate_callee (f := 81) rfl ?_); refine goesL_ (some 29) rfl rfl Tryd.func81 (by kernel_rfl) rfl #[.slice A0 l0.length c0, .int .i64 a1, .int .i64 a2] rfl tm_ ?_; (with_reducible refine (refill_between.calls k _ _ l0 a1 a2 t217 t218 _ ?side1 ?side2 A15.out).mono ?_); (case side1 => exact cl_ (Kd.C_below HR0.out HB.out)); (case side2 => exact HC0.out); rintro e w22 ⟨rfl, hb⟩; refine ⟨_, rfl, ?_⟩; have n0_ := a_ (Kd.R_below (rl_ HO214.out) hb); have n1_ := a_ (bb_ BK211.out hb); have n2_ := a_ (below_step bl_ hb); clear HO214; clear BK211; clear HB; have HO214 := n0_; have BK211 := n1_; have HB := n2_; clear n0_ n1_ n2_; (try clear hb); (try clear hb2); (try clear hk); (try clear hi); have hcz23_0 : w22.cell? ⟨gb211, 0, none⟩ = some (.int .i64 0) := (blk_cell BK211.out 0).trans rfl; have hcz23_1 : w22.cell? ⟨gb211, 1, none⟩ = some (.int .i64 0) := (blk_cell BK211.out 1).trans rfl; have hfz23_0 := blk_frozen BK211.out 0; have hfz23_1 := blk_frozen BK211.out 1))
    refine bodyPost_ret (results_ct rfl _ _ gb211 49 #[.int .i64 t217, .int .i64 t218] (0, 0) _ rfl (by (with_reducible repeat (first | refine blk_drewN ?_ _ | refine blk_drew ?_ | refine blk_alloc ?_ _)); refine blk_put (cs := #[.int .i64 t217, .int .i64 0]) ?_ 1 _ rfl; (with_reducible repeat (first | refine blk_drewN ?_ _ | refine blk_drew ?_ | refine blk_alloc ?_ _)); refine blk_put (cs := #[.int .i64 0, .int .i64 0]) ?_ 0 _ rfl; (with_reducible repeat (first | refine blk_drewN ?_ _ | refine blk_drew ?_ | refine blk_alloc ?_ _)); exact BK211.out) Tryd.underlying49 rfl (by kernel_rfl)) rfl ?_
    exact ⟨by first | rfl | (simp [errW_none, errW_some] <;> rfl) | (simp [*, errW_none, errW_some] <;> rfl), bl_⟩
   ·replace c14 := Bool.eq_false_iff.mpr c14
    subst c14
    have H1 : (some (0, 0, 31)) = some (r1, r2, r3) := by rw [if_neg (show ¬ (false = true) by decide)] at H; exact H
    clear H
    have H := H1
    clear H1
    simp only [Option.some.injEq, Prod.mk.injEq] at H
    obtain ⟨rfl, rfl, rfl⟩ := H
    go_enter Tryd.func44, Tryd.ntmps44
    go_wp2_with (first | ((with_reducible refine gate_dst (N := 6) rfl ?_); refine box_event ?hg (N := 6) ?hd (cs := #[.int .i64 0, .int .i64 0]) (t := 49) ?hr ?_; (case hd => rfl); (case hg => rfl); (case hr => first | (go_simp; done) | (go_simp; rfl)); intro gb211 hg w24 hbox hb; have n0_ := a_ (below_step bl_ hb); have n1_ := a_ (hbox); have n2_ := a_ ((bz_ (w := w) hg)); have n3_ := a_ ((bz_ (w := w) hg)); clear HB; have HB := n0_; have BK211 := n1_; have GW211 := n2_; have GE211 := n3_; clear n0_ n1_ n2_ n3_; clear hb hbox hg) | ((with_reducible refine gate_dst (N := 12) rfl ?_); refine Kd.R_lit (Kd.int .i64) _ 3 ?hg (N := 12) ?hd (xs := ([a1, a2] : List Int)) (inner := [.int .i64 a1, .int .i64 a2]) (ok := fun _ => True) (okp := fun _ => True) ?hr ?hp (fun _ hk => hk) trivial (Below.refl _ _) (Nat.le_refl _) (by simp) ?_; (case hd => rfl); (case hg => rfl); (case hr => first | (go_simp; done) | (go_simp; rfl)); (case hp => exact (Reps.one (show Kd.M (Kd.int .i64) _ _ _ a1 [.int .i64 a1] from rfl) (Reps.one (show Kd.M (Kd.int .i64) _ _ _ a2 [.int .i64 a2] from rfl) (Reps.none _ _)))); intro v213 w25 ho26 hb hg_ hnew_; clear hg_ hnew_; (first | rw [← Ny212.out] at ho26 | (simp only [Int.reduceToNat] at ho26; rw [← Ny212.out] at ho26)); have n0_ := a_ (Kd.R_lower ho26 (below_size bl_)); have n1_ := a_ (bb_ BK211.out hb); have n2_ := a_ (below_step bl_ hb); clear BK211; clear HB; have HO214 := n0_; have BK211 := n1_; have HB := n2_; clear n0_ n1_ n2_; clear hb ho26; obtain ⟨Ao27, co27, eo27⟩ := Kd.R_slice HO214.out; subst eo27) | ((with_reducible refine gate_callee (f := 63) rfl ?_); refine goesL_ (some 13) rfl rfl Tryd.func63 (by kernel_rfl) rfl #[.slice A0 l0.length c0, .int .i64 (-1), .slice Ao27 y212.length co27] rfl tm_ ?_; (with_reducible refine (refill_event.calls k _ _ l0 (-1) _ _ y212 t215 _ ?side1 ?side2 ?side3 ?side4 A4.out).mono ?_); (case side1 => exact cl_ (Kd.C_below HR0.out HB.out)); (case side2 => exact HC0.out); (case side3 => exact cl_ ((Kd.R_reads' HO214.out).2.2)); (case side4 => exact (Kd.R_reads' HO214.out).2.1); rintro e w28 ⟨rfl, hb⟩; refine ⟨_, rfl, ?_⟩; have n0_ := a_ (Kd.R_below (rl_ HO214.out) hb); have n1_ := a_ (bb_ BK211.out hb); have n2_ := a_ (below_step bl_ hb); clear HO214; clear BK211; clear HB; have HO214 := n0_; have BK211 := n1_; have HB := n2_; clear n0_ n1_ n2_; (try clear hb); (try clear hb2); (try clear hk); (try clear hi)) | ((with_reducible refine gate_callee (f := 64) rfl ?_); refine goesL_ (some 23) rfl rfl Tryd.func64 (by kernel_rfl) rfl #[.slice A0 l0.length c0] rfl tm_ ?_; (with_reducible refine (refill_possible.calls _ _ l0 false _ ?side1 ?side2 A13.out).mono ?_); (case side1 => exact cl_ (Kd.C_below HR0.out HB.out)); (case side2 => exact HC0.out); rintro e w29 ⟨rfl, hb⟩; refine ⟨_, rfl, ?_⟩; have n0_ := a_ (Kd.R_below (rl_ HO214.out) hb); have n1_ := a_ (bb_ BK211.out hb); have n2_ := a_ (below_step bl_ hb); clear HO214; clear BK211; clear HB; have HO214 := n0_; have BK211 := n1_; have HB := n2_; clear n0_ n1_ n2_; (try clear hb); (try clear hb2); (try clear hk); (try clear hi); have hcz30_0 : w29.cell? ⟨gb211, 0, none⟩ = some (.int .i64 0) := (blk_cell BK211.out 0).trans rfl; have hcz30_1 : w29.cell? ⟨gb211, 1, none⟩ = some (.int .i64 0) := (blk_cell BK211.out 1).trans rfl; have hfz30_0 := blk_frozen BK211.out 0; have hfz30_1 := blk_frozen BK211.out 1))
    refine bodyPost_ret (results_ct rfl _ _ gb211 49 #[.int .i64 0, .int .i64 0] (0, 0) _ rfl (by (with_reducible repeat (first | refine blk_drewN ?_ _ | refine blk_drew ?_ | refine blk_alloc ?_ _)); refine blk_put (cs := #[.int .i64 0, .int .i64 0]) ?_ 1 _ rfl; (with_reducible repeat (first | refine blk_drewN ?_ _ | refine blk_drew ?_ | refine blk_alloc ?_ _)); refine blk_put (cs := #[.int .i64 0, .int .i64 0]) ?_ 0 _ rfl; (with_reducible repeat (first | refine blk_drewN ?_ _ | refine blk_drew ?_ | refine blk_alloc ?_ _)); exact BK211.out) Tryd.underlying49 rfl (by kernel_rfl)) rfl ?_
    exact ⟨by first | rfl | (simp [errW_none, errW_some] <;> rfl) | (simp [*, errW_none, errW_some] <;> rfl), bl_⟩
 ·rw [if_neg c5] at H
  have c5b0 : (t215 == 0) = false := beq_eq_false_iff_ne.mpr c5
  have c5b1 : (t215 != 0) = true := bne_iff_ne.mpr c5
  simp only [Option.some.injEq, Prod.mk.injEq] at H
  obtain ⟨rfl, rfl, rfl⟩ := H
  go_enter Tryd.func44, Tryd.ntmps44
  go_wp2_with (first | ((with_reducible refine gate_dst (N := 6) rfl ?_); refine box_event ?hg (N := 6) ?hd (cs := #[.int .i64 0, .int .i64 0]) (t := 49) ?hr ?_; (case hd => rfl); (case hg => rfl); (case hr => first | (go_simp; done) | (go_simp; rfl)); intro gb211 hg w31 hbox hb; have n0_ := a_ (below_step bl_ hb); have n1_ := a_ (hbox); have n2_ := a_ ((bz_ (w := w) hg)); have n3_ := a_ ((bz_ (w := w) hg)); clear HB; have HB := n0_; have BK211 := n1_; have GW211 := n2_; have GE211 := n3_; clear n0_ n1_ n2_ n3_; clear hb hbox hg) | ((with_reducible refine gate_dst (N := 12) rfl ?_); refine Kd.R_lit (Kd.int .i64) _ 3 ?hg (N := 12) ?hd (xs := ([a1, a2] : List Int)) (inner := [.int .i64 a1, .int .i64 a2]) (ok := fun _ => True) (okp := fun _ => True) ?hr ?hp (fun _ hk => hk) trivial (Below.refl _ _) (Nat.le_refl _) (by simp) ?_; (case hd => rfl); (case hg => rfl); (case hr => first | (go_simp; done) | (go_simp; rfl)); (case hp => exact (Reps.one (show Kd.M (Kd.int .i64) _ _ _ a1 [.int .i64 a1] from rfl) (Reps.one (show Kd.M (Kd.int .i64) _ _ _ a2 [.int .i64 a2] from rfl) (Reps.none _ _)))); intro v213 w32 ho33 hb hg_ hnew_; clear hg_ hnew_; (first | rw [← Ny212.out] at ho33 | (simp only [Int.reduceToNat] at ho33; rw [← Ny212.out] at ho33)); have n0_ := a_ (Kd.R_lower ho33 (below_size bl_)); have n1_ := a_ (bb_ BK211.out hb); have n2_ := a_ (below_step bl_ hb); clear BK211; clear HB; have HO214 := n0_; have BK211 := n1_; have HB := n2_; clear n0_ n1_ n2_; clear hb ho33; obtain ⟨Ao34, co34, eo34⟩ := Kd.R_slice HO214.out; subst eo34) | ((with_reducible refine gate_callee (f := 63) rfl ?_); refine goesL_ (some 13) rfl rfl Tryd.func63 (by kernel_rfl) rfl #[.slice A0 l0.length c0, .int .i64 (-1), .slice Ao34 y212.length co34] rfl tm_ ?_; (with_reducible refine (refill_event.calls k _ _ l0 (-1) _ _ y212 t215 _ ?side1 ?side2 ?side3 ?side4 A4.out).mono ?_); (case side1 => exact cl_ (Kd.C_below HR0.out HB.out)); (case side2 => exact HC0.out); (case side3 => exact cl_ ((Kd.R_reads' HO214.out).2.2)); (case side4 => exact (Kd.R_reads' HO214.out).2.1); rintro e w35 ⟨rfl, hb⟩; refine ⟨_, rfl, ?_⟩; have n0_ := a_ (Kd.R_below (rl_ HO214.out) hb); have n1_ := a_ (bb_ BK211.out hb); have n2_ := a_ (below_step bl_ hb); clear HO214; clear BK211; clear HB; have HO214 := n0_; have BK211 := n1_; have HB := n2_; clear n0_ n1_ n2_; (try clear hb); (try clear hb2); (try clear hk); (try clear hi); have hcz36_0 : w35.cell? ⟨gb211, 0, none⟩ = some (.int .i64 0) := (blk_cell BK211.out 0).trans rfl; have hcz36_1 : w35.cell? ⟨gb211, 1, none⟩ = some (.int .i64 0) := (blk_cell BK211.out 1).trans rfl; have hfz36_0 := blk_frozen BK211.out 0; have hfz36_1 := blk_frozen BK211.out 1))
  refine bodyPost_ret (results_ct rfl _ _ gb211 49 #[.int .i64 0, .int .i64 0] (0, 0) _ rfl (by (with_reducible repeat (first | refine blk_drewN ?_ _ | refine blk_drew ?_ | refine blk_alloc ?_ _)); refine blk_put (cs := #[.int .i64 0, .int .i64 0]) ?_ 1 _ rfl; (with_reducible repeat (first | refine blk_drewN ?_ _ | refine blk_drew ?_ | refine blk_alloc ?_ _)); refine blk_put (cs := #[.int .i64 0, .int .i64 0]) ?_ 0 _ rfl; (with_reducible repeat (first | refine blk_drewN ?_ _ | refine blk_drew ?_ | refine blk_alloc ?_ _)); exact BK211.out) Tryd.underlying49 rfl (by kernel_rfl)) rfl ?_
  exact ⟨by first | rfl | (simp [errW_none, errW_some] <;> rfl) | (simp [*, errW_none, errW_some] <;> rfl), bl_⟩
end Go.Proofs.YtgiihjcpgjpkcaaDoor.Q
