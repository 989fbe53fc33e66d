/- Contracts of functions that RefillDays reaches: each Go function as a plain Lean function and the proof that its call answers just so. -/
import Derived.Test.YtgiihjcpgjpkcaaDoorKQ0
import Derived.Test.YtgiihjcpgjpkcaaDoorKQB
import Derived.Test.YtgiihjcpgjpkcaaDoorKQK2
namespace Go.Proofs.YtgiihjcpgjpkcaaDoor.Q
open Go.RowKit Go.Proofs.YtgiihjcpgjpkcaaDoorW.PrintWords Go.Proofs.YtgiihjcpgjpkcaaDoorW.PrintLast Go.Proofs.YtgiihjcpgjpkcaaDoorW.PrintMore
attribute [local go_sem] max2_int min2_int max_two min_two max_three min_three max_four min_four   -- for this text's walks alone
set_option linter.unusedVariables false
set_option linter.unusedSimpArgs false
def refill_Joined.f (k : Nat) (l0 : List (S51)) (l1 : List (S51)) : Option ((List (S51)) × Int) := (refill_Check.f k l0).bind fun t430 => (if t430 = 0 then ((refill_Check.f k l1).bind fun t431 => (if t431 = 0 then (if (wrap64 ((l0.length : Int) + (l1.length : Int))) > 32 then (some (([] : List (S51)), 2)) else ((api_Event_85.f k (([l0, l1] : List (List (S51))))).bind fun t435 => (some (t435, 0)))) else (some (([] : List (S51)), t431)))) else (some (([] : List (S51)), t430)))
theorem refill_Joined.mono : ∀ a0 a1 k, LeO (refill_Joined.f k a0 a1) (refill_Joined.f (k + 1) a0 a1) := by
 intro a0 a1 k
 unfold refill_Joined.f
 repeat' first
   | (with_reducible exact api_Event_85.mono _ _)
   | (with_reducible exact refill_Check.mono _ _)
   | (with_reducible exact LeO.refl _)
   | (with_reducible exact LeO.none _)
   | (with_reducible refine LeO.ite ?_ ?_)
   | (with_reducible refine LeO.bind ?_ (fun _ => ?_))
   | exact api_Event_85.mono _ _
   | exact refill_Check.mono _ _
   | exact LeO.none _
   | refine LeO.ite ?_ ?_
   | refine LeO.bind ?_ (fun _ => ?_)
set_option maxHeartbeats 8000000 in
set_option maxRecDepth 100000 in
theorem refill_Joined.calls (k : Nat) (P0_ : Nat → Prop) (A0 : Option Addr) (c0 : Nat) (l0 : List (S51)) (P1_ : Nat → Prop) (A1 : Option Addr) (c1 : Nat) (l1 : List (S51)) (r1 : List (S51)) (r2 : Int) (w : World) (hs0 : Kd.V k51 51 w w.heap.size (fun k_ => P0_ k_) (.slice A0 l0.length c0) l0) (hs1 : Kd.V k51 51 w w.heap.size (fun k_ => P1_ k_) (.slice A1 l1.length c1) l1) (h : refill_Joined.f k l0 l1 = some (r1, r2)) :
  Calls Tryd.prog 39 #[.slice A0 l0.length c0, .slice A1 l1.length c1] w fun e w' => ∃ v0_ : Value, e = .returned (.tuple #[v0_, .int .i64 r2]) ∧ Kd.R k51 51 w' w.heap.size (fun k_ => (w.heap.size ≤ k_)) v0_ r1 ∧ Below w.heap.size w w' := by
 have HO0 := a_ (show Kd.V k51 51 w w.heap.size (fun k_ => ((P0_ k_ ∨ P1_ k_) ∨ w.heap.size ≤ k_)) (.slice A0 l0.length c0) l0 from Kd.V_mono hs0 (fun k_ hk => .inl (.inl hk)))
 have HO1 := a_ (show Kd.V k51 51 w w.heap.size (fun k_ => ((P0_ k_ ∨ P1_ k_) ∨ w.heap.size ≤ k_)) (.slice A1 l1.length c1) l1 from Kd.V_mono hs1 (fun k_ hk => .inl (.inr hk)))
 have HB := a_ (Below.refl w.heap.size w)
 have H : ((refill_Check.f k l0).bind fun t430 => (if t430 = 0 then ((refill_Check.f k l1).bind fun t431 => (if t431 = 0 then (if (wrap64 ((l0.length : Int) + (l1.length : Int))) > 32 then (some (([] : List (S51)), 2)) else ((api_Event_85.f k (([l0, l1] : List (List (S51))))).bind fun t435 => (some (t435, 0)))) else (some (([] : List (S51)), t431)))) else (some (([] : List (S51)), t430)))) = some (r1, r2) := h
 clear h
 replace H := Option.bind_eq_some_iff.mp H
 obtain ⟨t430, A30, H⟩ := H
 replace H : (if t430 = 0 then ((refill_Check.f k l1).bind fun t431 => (if t431 = 0 then (if (wrap64 ((l0.length : Int) + (l1.length : Int))) > 32 then (some (([] : List (S51)), 2)) else ((api_Event_85.f k (([l0, l1] : List (List (S51))))).bind fun t435 => (some (t435, 0)))) else (some (([] : List (S51)), t431)))) else (some (([] : List (S51)), t430))) = some (r1, r2) := H
 have A3 := a_ A30
 clear A30
 by_cases c4 : t430 = 0
 ·rw [if_pos c4] at H
  have c4b0 : (t430 == 0) = true := beq_iff_eq.mpr c4
  have c4b1 : (t430 != 0) = false := bne_eq_false_iff_eq.mpr c4
  clear c4
  replace H := Option.bind_eq_some_iff.mp H
  obtain ⟨t431, A50, H⟩ := H
  replace H : (if t431 = 0 then (if (wrap64 ((l0.length : Int) + (l1.length : Int))) > 32 then (some (([] : List (S51)), 2)) else ((api_Event_85.f k (([l0, l1] : List (List (S51))))).bind fun t435 => (some (t435, 0)))) else (some (([] : List (S51)), t431))) = some (r1, r2) := H
  have A5 := a_ A50
  clear A50
  by_cases c6 : t431 = 0
  ·rw [if_pos c6] at H
   have c6b0 : (t431 == 0) = true := beq_iff_eq.mpr c6
   have c6b1 : (t431 != 0) = false := bne_eq_false_iff_eq.mpr c6
   clear c6
   by_cases c7 : (wrap64 ((l0.length : Int) + (l1.length : Int))) > 32
   ·rw [if_pos c7] at H
    have c7b0 : decide (32 < (wrap64 ((l0.length : Int) + (l1.length : Int)))) = true := decide_eq_true c7
    clear c7
    simp only [Option.some.injEq, Prod.mk.injEq] at H
    obtain ⟨rfl, rfl⟩ := H
    go_enter Tryd.func39, Tryd.ntmps39
    go_wp2_with (first | ((with_reducible refine gate_callee (f := 47) rfl ?_); refine goesL_ (some 9) rfl rfl Tryd.func47 (by kernel_rfl) rfl #[.slice A0 l0.length c0] rfl tm_ ?_; (with_reducible refine (refill_Check.calls k _ _ l0 t430 _ ?side1 ?side2 A3.out).mono ?_); (case side1 => exact cl_ ((Kd.V_reads' HO0.out).2.2)); (case side2 => exact (Kd.V_reads' HO0.out).2.1); rintro e w8 ⟨rfl, hb⟩; refine ⟨_, rfl, ?_⟩; have n0_ := a_ (Kd.V_below (vl_ HO0.out) hb); have n1_ := a_ (Kd.V_below (vl_ HO1.out) hb); have n2_ := a_ (below_step bl_ hb); clear HO0; clear HO1; clear HB; have HO0 := n0_; have HO1 := n1_; have HB := n2_; clear n0_ n1_ n2_; (try clear hb); (try clear hb2); (try clear hk); (try clear hi)) | ((with_reducible refine gate_callee (f := 47) rfl ?_); refine goesL_ (some 14) rfl rfl Tryd.func47 (by kernel_rfl) rfl #[.slice A1 l1.length c1] rfl tm_ ?_; (with_reducible refine (refill_Check.calls k _ _ l1 t431 _ ?side1 ?side2 A5.out).mono ?_); (case side1 => exact cl_ ((Kd.V_reads' HO1.out).2.2)); (case side2 => exact (Kd.V_reads' HO1.out).2.1); rintro e w9 ⟨rfl, hb⟩; refine ⟨_, rfl, ?_⟩; have n0_ := a_ (Kd.V_below (vl_ HO0.out) hb); have n1_ := a_ (Kd.V_below (vl_ HO1.out) hb); have n2_ := a_ (below_step bl_ hb); clear HO0; clear HO1; clear HB; have HO0 := n0_; have HO1 := n1_; have HB := n2_; clear n0_ n1_ n2_; (try clear hb); (try clear hb2); (try clear hk); (try clear hi)))
    go_ret2
    exact ⟨_, by first | rfl | (simp [errW_none, errW_some] <;> rfl) | (simp [*, errW_none, errW_some] <;> rfl), by first | exact Kd.R_nil _ _ _ _ _ | exact Kd.N_nil _ _ _ _ _ | exact Kd.V_nil _ _ _ _ _ | exact Kd.Q_nil _ _ _ _ _ | exact Kd.S_nil _ _ _ _ _, bl_⟩
   ·rw [if_neg c7] at H
    have c7b0 : decide (32 < (wrap64 ((l0.length : Int) + (l1.length : Int)))) = false := decide_eq_false c7
    clear c7
    obtain ⟨y432, hy432⟩ : ∃ y_ : List (List (S51)), y_ = (([l0, l1] : List (List (S51)))) := ⟨_, rfl⟩
    replace H : ((api_Event_85.f k y432).bind fun t435 => (some (t435, 0))) = some (r1, r2) := by first | (rw [hy432]; with_reducible exact H) | (have H2_ := (Option.bind_some _ _).symm.trans H; rw [hy432]; with_reducible exact H2_) | (have H2_ := (Option.bind_some _ _).symm.trans H; with_reducible exact H2_) | with_reducible exact H | (rw [hy432]; exact H) | exact H
    have Ny432 := a_ hy432
    clear hy432
    replace H := Option.bind_eq_some_iff.mp H
    obtain ⟨t435, A100, H⟩ := H
    replace H : (some (t435, 0)) = some (r1, r2) := H
    have A10 := a_ A100
    clear A100
    simp only [Option.some.injEq, Prod.mk.injEq] at H
    obtain ⟨rfl, rfl⟩ := H
    go_enter Tryd.func39, Tryd.ntmps39
    go_wp2_with (first | ((with_reducible refine gate_callee (f := 47) rfl ?_); refine goesL_ (some 9) rfl rfl Tryd.func47 (by kernel_rfl) rfl #[.slice A0 l0.length c0] rfl tm_ ?_; (with_reducible refine (refill_Check.calls k _ _ l0 t430 _ ?side1 ?side2 A3.out).mono ?_); (case side1 => exact cl_ ((Kd.V_reads' HO0.out).2.2)); (case side2 => exact (Kd.V_reads' HO0.out).2.1); rintro e w11 ⟨rfl, hb⟩; refine ⟨_, rfl, ?_⟩; have n0_ := a_ (Kd.V_below (vl_ HO0.out) hb); have n1_ := a_ (Kd.V_below (vl_ HO1.out) hb); have n2_ := a_ (below_step bl_ hb); clear HO0; clear HO1; clear HB; have HO0 := n0_; have HO1 := n1_; have HB := n2_; clear n0_ n1_ n2_; (try clear hb); (try clear hb2); (try clear hk); (try clear hi)) | ((with_reducible refine gate_callee (f := 47) rfl ?_); refine goesL_ (some 14) rfl rfl Tryd.func47 (by kernel_rfl) rfl #[.slice A1 l1.length c1] rfl tm_ ?_; (with_reducible refine (refill_Check.calls k _ _ l1 t431 _ ?side1 ?side2 A5.out).mono ?_); (case side1 => exact cl_ ((Kd.V_reads' HO1.out).2.2)); (case side2 => exact (Kd.V_reads' HO1.out).2.1); rintro e w12 ⟨rfl, hb⟩; refine ⟨_, rfl, ?_⟩; have n0_ := a_ (Kd.V_below (vl_ HO0.out) hb); have n1_ := a_ (Kd.V_below (vl_ HO1.out) hb); have n2_ := a_ (below_step bl_ hb); clear HO0; clear HO1; clear HB; have HO0 := n0_; have HO1 := n1_; have HB := n2_; clear n0_ n1_ n2_; (try clear hb); (try clear hb2); (try clear hk); (try clear hi)) | ((with_reducible refine gate_dst (N := 26) rfl ?_); refine Kd.N_lit (Kd.slice 51 k51) _ 23 ?hg (N' := 26) ?hd (xs := ([l0, l1] : List (List (S51)))) (inner := [.slice A0 l0.length c0, .slice A1 l1.length c1]) (ok := (fun k_ => ((P0_ k_ ∨ P1_ k_) ∨ w.heap.size ≤ k_))) (okp := (fun k_ => ((P0_ k_ ∨ P1_ k_) ∨ w.heap.size ≤ k_))) ?hr ?hp (fun _ hk => hk) ((show ∀ k_, w12.heap.size ≤ k_ → (fun k_ => ((P0_ k_ ∨ P1_ k_) ∨ w.heap.size ≤ k_)) k_ from fun k_ hk => (.inr (Nat.le_trans (below_size bl_) hk))) _ (Nat.le_refl _)) (Below.refl _ _) (Nat.le_refl _) (by simp) ?_; (case hd => rfl); (case hg => rfl); (case hr => first | (go_simp; done) | (go_simp; rfl)); (case hp => exact (Reps.one (show Kd.FK (Kd.slice 51 k51) _ _ l0 [.slice A0 l0.length c0] from (Kd.FK_slice_mk (Kd.V_reads' (Kd.V_mono (ok' := (fun k_ => ((P0_ k_ ∨ P1_ k_) ∨ w.heap.size ≤ k_))) (HO0.out) (fun k_ hk => hk))).2.1 (Kd.V_F (Kd.V_mono (ok' := (fun k_ => ((P0_ k_ ∨ P1_ k_) ∨ w.heap.size ≤ k_))) (HO0.out) (fun k_ hk => hk))))) (Reps.one (show Kd.FK (Kd.slice 51 k51) _ _ l1 [.slice A1 l1.length c1] from (Kd.FK_slice_mk (Kd.V_reads' (Kd.V_mono (ok' := (fun k_ => ((P0_ k_ ∨ P1_ k_) ∨ w.heap.size ≤ k_))) (HO1.out) (fun k_ hk => hk))).2.1 (Kd.V_F (Kd.V_mono (ok' := (fun k_ => ((P0_ k_ ∨ P1_ k_) ∨ w.heap.size ≤ k_))) (HO1.out) (fun k_ hk => hk))))) (Reps.none _ _)))); intro v433 w13 ho14 hb hg_ hnew_; clear hg_ hnew_; (first | rw [← Ny432.out] at ho14 | (simp only [Int.reduceToNat] at ho14; rw [← Ny432.out] at ho14)); have n0_ := a_ (Kd.V_elder' (vl_ HO0.out) (Kd.N_base ho14) hb); have n1_ := a_ (Kd.V_elder' (vl_ HO1.out) (Kd.N_base ho14) hb); have n2_ := a_ (Kd.N_lower ho14 (below_size bl_)); have n3_ := a_ (below_step bl_ hb); clear HO0; clear HO1; clear HB; have HO0 := n0_; have HO1 := n1_; have HO434 := n2_; have HB := n3_; clear n0_ n1_ n2_ n3_; clear hb ho14; obtain ⟨Ao15, co15, eo15⟩ := Kd.N_slice HO434.out; subst eo15) | ((with_reducible refine gate_callee (f := 85) rfl ?_); refine goesL_ (some 27) rfl rfl Tryd.func85 (by kernel_rfl) rfl #[.slice Ao15 y432.length co15] rfl tm_ ?_; (with_reducible refine (api_Event_85.calls k _ _ y432 t435 _ ?side1 ?side2 A10.out).mono ?_); (case side1 => exact cl_ ((Kd.N_reads' HO434.out).2.2)); (case side2 => exact (Kd.N_reads' HO434.out).2.1); rintro e w16 ⟨v436, rfl, ho0, hb⟩; refine ⟨_, rfl, ?_⟩; have n0_ := a_ (Kd.V_elder' (vl_ HO0.out) (Kd.R_base ho0) hb); have n1_ := a_ (Kd.V_elder' (vl_ HO1.out) (Kd.R_base ho0) hb); have n2_ := a_ (Kd.N_elder' (by (with_reducible repeat (first | apply Kd.N_alloc | apply Kd.N_drewN | apply Kd.N_drew)); exact HO434.out) (Kd.R_base ho0) hb); have n3_ := a_ (Kd.R_lower (Kd.R_newM (M := fun k_ => (w.heap.size ≤ k_)) ho0 (below_size bl_) (fun k_ h_ => h_)) (below_size bl_)); have n4_ := a_ (below_step bl_ hb); clear HO0; clear HO1; clear HO434; clear HB; have HO0 := n0_; have HO1 := n1_; have HO434 := n2_; have HO437 := n3_; have HB := n4_; clear n0_ n1_ n2_ n3_ n4_; (try clear hb); (try clear hb2); (try clear hk); (try clear hi); (try clear ho0)))
    go_ret2
    exact ⟨_, by first | rfl | (simp [errW_none, errW_some] <;> rfl) | (simp [*, errW_none, errW_some] <;> rfl), by (with_reducible repeat (first | apply Kd.R_alloc | apply Kd.R_drewN | apply Kd.R_drew)); exact Kd.R_mono HO437.out (fun _ hk => hk.1), bl_⟩
  ·rw [if_neg c6] at H
   have c6b0 : (t431 == 0) = false := beq_eq_false_iff_ne.mpr c6
   have c6b1 : (t431 != 0) = true := bne_iff_ne.mpr c6
   simp only [Option.some.injEq, Prod.mk.injEq] at H
   obtain ⟨rfl, rfl⟩ := H
   go_enter Tryd.func39, Tryd.ntmps39
   go_wp2_with (first | ((with_reducible refine gate_callee (f := 47) rfl ?_); refine goesL_ (some 9) rfl rfl Tryd.func47 (by kernel_rfl) rfl #[.slice A0 l0.length c0] rfl tm_ ?_; (with_reducible refine (refill_Check.calls k _ _ l0 t430 _ ?side1 ?side2 A3.out).mono ?_); (case side1 => exact cl_ ((Kd.V_reads' HO0.out).2.2)); (case side2 => exact (Kd.V_reads' HO0.out).2.1); rintro e w17 ⟨rfl, hb⟩; refine ⟨_, rfl, ?_⟩; have n0_ := a_ (Kd.V_below (vl_ HO0.out) hb); have n1_ := a_ (Kd.V_below (vl_ HO1.out) hb); have n2_ := a_ (below_step bl_ hb); clear HO0; clear HO1; clear HB; have HO0 := n0_; have HO1 := n1_; have HB := n2_; clear n0_ n1_ n2_; (try clear hb); (try clear hb2); (try clear hk); (try clear hi)) | ((with_reducible refine gate_callee (f := 47) rfl ?_); refine goesL_ (some 14) rfl rfl Tryd.func47 (by kernel_rfl) rfl #[.slice A1 l1.length c1] rfl tm_ ?_; (with_reducible refine (refill_Check.calls k _ _ l1 t431 _ ?side1 ?side2 A5.out).mono ?_); (case side1 => exact cl_ ((Kd.V_reads' HO1.out).2.2)); (case side2 => exact (Kd.V_reads' HO1.out).2.1); rintro e w18 ⟨rfl, hb⟩; refine ⟨_, rfl, ?_⟩; have n0_ := a_ (Kd.V_below (vl_ HO0.out) hb); have n1_ := a_ (Kd.V_below (vl_ HO1.out) hb); have n2_ := a_ (below_step bl_ hb); clear HO0; clear HO1; clear HB; have HO0 := n0_; have HO1 := n1_; have HB := n2_; clear n0_ n1_ n2_; (try clear hb); (try clear hb2); (try clear hk); (try clear hi)))
   go_ret2
   exact ⟨_, by first | rfl | (simp [errW_none, errW_some] <;> rfl) | (simp [*, errW_none, errW_some] <;> rfl), by first | exact Kd.R_nil _ _ _ _ _ | exact Kd.N_nil _ _ _ _ _ | exact Kd.V_nil _ _ _ _ _ | exact Kd.Q_nil _ _ _ _ _ | exact Kd.S_nil _ _ _ _ _, bl_⟩
 ·rw [if_neg c4] at H
  have c4b0 : (t430 == 0) = false := beq_eq_false_iff_ne.mpr c4
  have c4b1 : (t430 != 0) = true := bne_iff_ne.mpr c4
  simp only [Option.some.injEq, Prod.mk.injEq] at H
  obtain ⟨rfl, rfl⟩ := H
  go_enter Tryd.func39, Tryd.ntmps39
  go_wp2_with (first | ((with_reducible refine gate_callee (f := 47) rfl ?_); refine goesL_ (some 9) rfl rfl Tryd.func47 (by kernel_rfl) rfl #[.slice A0 l0.length c0] rfl tm_ ?_; (with_reducible refine (refill_Check.calls k _ _ l0 t430 _ ?side1 ?side2 A3.out).mono ?_); (case side1 => exact cl_ ((Kd.V_reads' HO0.out).2.2)); (case side2 => exact (Kd.V_reads' HO0.out).2.1); rintro e w19 ⟨rfl, hb⟩; refine ⟨_, rfl, ?_⟩; have n0_ := a_ (Kd.V_below (vl_ HO0.out) hb); have n1_ := a_ (Kd.V_below (vl_ HO1.out) hb); have n2_ := a_ (below_step bl_ hb); clear HO0; clear HO1; clear HB; have HO0 := n0_; have HO1 := n1_; have HB := n2_; clear n0_ n1_ n2_; (try clear hb); (try clear hb2); (try clear hk); (try clear hi)))
  go_ret2
  exact ⟨_, by first | rfl | (simp [errW_none, errW_some] <;> rfl) | (simp [*, errW_none, errW_some] <;> rfl), by first | exact Kd.R_nil _ _ _ _ _ | exact Kd.N_nil _ _ _ _ _ | exact Kd.V_nil _ _ _ _ _ | exact Kd.Q_nil _ _ _ _ _ | exact Kd.S_nil _ _ _ _ _, bl_⟩
end Go.Proofs.YtgiihjcpgjpkcaaDoor.Q
