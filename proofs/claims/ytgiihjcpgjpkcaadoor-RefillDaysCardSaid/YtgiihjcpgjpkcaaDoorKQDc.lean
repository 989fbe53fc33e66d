/- Contracts of functions that RefillDays reaches: each Go function as a plain Lean function and the proof that its call answers just so. -/
import Derived.Test.YtgiihjcpgjpkcaaDoorKQ0
import Derived.Test.YtgiihjcpgjpkcaaDoorKQDb
namespace Go.Proofs.YtgiihjcpgjpkcaaDoor.Q
open Go.RowKit Go.Proofs.YtgiihjcpgjpkcaaDoorW.PrintWords Go.Proofs.YtgiihjcpgjpkcaaDoorW.PrintLast Go.Proofs.YtgiihjcpgjpkcaaDoorW.PrintMore
attribute [local go_sem] max2_int min2_int max_two min_two max_three min_three max_four min_four   -- for this text's walks alone
set_option linter.unusedVariables false
set_option linter.unusedSimpArgs false
def waterhourref04_copied.f (l0 : List (S51)) : Option ((List (S51))) := (some (([] : List (S51)) : List (S51))).bind fun y320 => (if y320.length + l0.length < 4398046511104 then (some (y320 ++ l0)) else (none))
set_option maxHeartbeats 8000000 in
set_option maxRecDepth 100000 in
theorem waterhourref04_copied.calls (A0 : Option Addr) (c0 : Nat) (l0 : List (S51)) (r : List (S51)) (w : World) (hr0 : Kd.C k51 w A0 l0.length l0) (hc0 : l0.length ≤ c0) (h : waterhourref04_copied.f l0 = some r) :
  Calls Tryd.prog 67 #[.slice A0 l0.length c0] w fun e w' => ∃ v0_ : Value, e = .returned (v0_) ∧ Kd.R k51 51 w' w.heap.size (fun _ => True) v0_ r ∧ Below w.heap.size w w' := by
 have HR0 := a_ hr0
 have HC0 := a_ hc0
 clear hr0 hc0
 have HB := a_ (Below.refl w.heap.size w)
 have H : ((some (([] : List (S51)) : List (S51))).bind fun y320 => (if y320.length + l0.length < 4398046511104 then (some (y320 ++ l0)) else (none))) = some r := h
 clear h
 obtain ⟨y320, hy320⟩ : ∃ y_ : List (S51), y_ = (([] : List (S51))) := ⟨_, rfl⟩
 replace H : (if y320.length + l0.length < 4398046511104 then (some (y320 ++ l0)) else (none)) = some r := by first | (rw [hy320]; with_reducible exact H) | (have H2_ := (Option.bind_some _ _).symm.trans H; rw [hy320]; with_reducible exact H2_) | (have H2_ := (Option.bind_some _ _).symm.trans H; with_reducible exact H2_) | with_reducible exact H | (rw [hy320]; exact H) | exact H
 have Ny320 := a_ hy320
 clear hy320
 by_cases c2 : y320.length + l0.length < 4398046511104
 ·rw [if_pos c2] at H
  have LMc2 := a_ c2
  clear c2
  obtain ⟨y323, hy323⟩ : ∃ y_ : List (S51), y_ = (y320 ++ l0) := ⟨_, rfl⟩
  replace H : (some y323) = some r := by first | (rw [hy323]; with_reducible exact H) | (have H2_ := (Option.bind_some _ _).symm.trans H; rw [hy323]; with_reducible exact H2_) | (have H2_ := (Option.bind_some _ _).symm.trans H; with_reducible exact H2_) | with_reducible exact H | (rw [hy323]; exact H) | exact H
  have Ny323 := a_ hy323
  clear hy323
  obtain rfl := Option.some.inj H
  go_enter Tryd.func67, Tryd.ntmps67
  go_wp2_with (first | ((with_reducible refine gate_dst (N := 3) rfl ?_); refine Kd.R_lit k51 _ 51 ?hg (N := 3) ?hd (xs := ([] : List (S51))) (inner := []) (ok := fun _ => True) (okp := fun _ => True) ?hr ?hp (fun _ hk => hk) trivial (Below.refl _ _) (Nat.le_refl _) (by simp) ?_; (case hd => rfl); (case hg => rfl); (case hr => first | (go_simp; done) | (go_simp; rfl)); (case hp => exact (Reps.none _ _)); intro v321 w3 ho4 hb hg_ hnew_; clear hg_ hnew_; (first | rw [← Ny320.out] at ho4 | (simp only [Int.reduceToNat] at ho4; rw [← Ny320.out] at ho4)); have n0_ := a_ (Kd.R_lower ho4 (below_size bl_)); have n1_ := a_ (below_step bl_ hb); clear HB; have HO322 := n0_; have HB := n1_; clear n0_ n1_; clear hb ho4) | ((with_reducible refine gate_builtin (b := .append) (xs := #[.tmp 3, .tmp 4]) rfl ?_); at_builtin; refine Kd.R_append_rows k51 (w0 := w) w.heap.size rfl (.tmp 3) (.tmp 4) 23 51 (.agg #[(.int .i64 0), (.int .i64 0), (.int .i64 0), (.int .i64 0)]) 32 rfl Tryd.underlying23 info51 rfl (by decide) (by omega) v321 y320 l0 _ _ _ (fun _ => True) (fun _ => False) rfl rfl ?aO ?aR (fun _ _ h => h) (fun _ h => h.elim) ?aF ?aB ?aS ?aL ?_; (case aR => exact cl_ (Kd.C_below HR0.out HB.out)); (case aB => exact bl_); (case aF => exact (fun _ _ => trivial)); (case aO => exact (rl_ HO322.out)); (case aS => exact (below_size bl_)); (case aL => have := LMc2.out; omega); intro v324 w5 ho hb hg hat; rw [← Ny323.out] at ho; have n0_ := a_ (hb); have n1_ := a_ (ho); clear HB; clear HO322; have HB := n0_; have HO325 := n1_; clear n0_ n1_; clear ho hb hg hat))
  go_ret
  exact ⟨_, by first | rfl | (simp [errW_none, errW_some] <;> rfl) | (simp [*, errW_none, errW_some] <;> rfl), by (with_reducible repeat (first | apply Kd.R_alloc | apply Kd.R_drewN | apply Kd.R_drew)); exact HO325.out, bl_⟩
 ·rw [if_neg c2] at H
  exact absurd H (by simp)
end Go.Proofs.YtgiihjcpgjpkcaaDoor.Q
