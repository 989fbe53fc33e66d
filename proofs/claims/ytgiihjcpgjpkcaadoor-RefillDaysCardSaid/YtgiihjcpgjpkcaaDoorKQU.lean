/- Contracts of functions that RefillDays reaches: each Go function as a plain Lean function and the proof that its call answers just so. -/
import Derived.Test.YtgiihjcpgjpkcaaDoorKQ0
import Derived.Test.YtgiihjcpgjpkcaaDoorKQC
import Derived.Test.YtgiihjcpgjpkcaaDoorKQDc
namespace Go.Proofs.YtgiihjcpgjpkcaaDoor.Q
open Go.RowKit Go.Proofs.YtgiihjcpgjpkcaaDoorW.PrintWords Go.Proofs.YtgiihjcpgjpkcaaDoorW.PrintLast Go.Proofs.YtgiihjcpgjpkcaaDoorW.PrintMore
attribute [local go_sem] max2_int min2_int max_two min_two max_three min_three max_four min_four   -- for this text's walks alone
set_option linter.unusedVariables false
set_option linter.unusedSimpArgs false
def waterhourref04_Joined.j0 : Nat → List (S51) → List (S51) → Bool → Option ((List (S51)) × Int)
 | 0, _, _, _ => none
 | k + 1, x0, x1, x13 => if x13 = true then (some (([] : List (S51)), 40)) else (if (wrap64 ((x0.length : Int) + (x1.length : Int))) > 32 then (some (([] : List (S51)), 2)) else ((waterhourref04_copied.f x0).bind fun t910 => (if t910.length + x1.length < 4398046511104 then (some ((t910 ++ x1), 0)) else (none))))
def waterhourref04_Joined.f (k : Nat) (l0 : List (S51)) (l1 : List (S51)) : Option ((List (S51)) × Int) := (waterhourref04_Valid.f k l0).bind fun t908 => (if t908 = true then ((waterhourref04_Valid.f k l1).bind fun t909 => (waterhourref04_Joined.j0 k l0 l1 (!t909))) else (waterhourref04_Joined.j0 k l0 l1 true))
theorem waterhourref04_Joined.mono_l : ∀ k, (∀ y0 y1 y2, LeO (waterhourref04_Joined.j0 k y0 y1 y2) (waterhourref04_Joined.j0 (k + 1) y0 y1 y2))
 | 0 => fun _ _ _ r h => by simp [waterhourref04_Joined.j0] at h
 | k + 1 => by
  have ih0 := waterhourref04_Joined.mono_l k
  ·intro y0 y1 y2
   unfold waterhourref04_Joined.j0
   repeat' first
   | (with_reducible exact ih0 _ _ _)
   | (with_reducible exact waterhourref04_Valid.mono _ _)
   | (with_reducible exact LeO.refl _)
   | (with_reducible exact LeO.none _)
   | (with_reducible refine LeO.ite ?_ ?_)
   | (with_reducible refine LeO.bind ?_ (fun _ => ?_))
   | exact ih0 _ _ _
   | exact waterhourref04_Valid.mono _ _
   | exact LeO.none _
   | refine LeO.ite ?_ ?_
   | refine LeO.bind ?_ (fun _ => ?_)
theorem waterhourref04_Joined.mono : ∀ a0 a1 k, LeO (waterhourref04_Joined.f k a0 a1) (waterhourref04_Joined.f (k + 1) a0 a1) := by
 intro a0 a1 k
 have ih0 := waterhourref04_Joined.mono_l k
 unfold waterhourref04_Joined.f
 repeat' first
   | (with_reducible exact ih0 _ _ _)
   | (with_reducible exact waterhourref04_Valid.mono _ _)
   | (with_reducible exact LeO.refl _)
   | (with_reducible exact LeO.none _)
   | (with_reducible refine LeO.ite ?_ ?_)
   | (with_reducible refine LeO.bind ?_ (fun _ => ?_))
   | exact ih0 _ _ _
   | exact waterhourref04_Valid.mono _ _
   | exact LeO.none _
   | refine LeO.ite ?_ ?_
   | refine LeO.bind ?_ (fun _ => ?_)
set_option maxHeartbeats 8000000 in
set_option maxRecDepth 100000 in
theorem waterhourref04_Joined.calls (k : Nat) (A0 : Option Addr) (c0 : Nat) (l0 : List (S51)) (A1 : Option Addr) (c1 : Nat) (l1 : List (S51)) (r1 : List (S51)) (r2 : Int) (w : World) (hr0 : Kd.C k51 w A0 l0.length l0) (hc0 : l0.length ≤ c0) (hr1 : Kd.C k51 w A1 l1.length l1) (hc1 : l1.length ≤ c1) (h : waterhourref04_Joined.f k l0 l1 = some (r1, r2)) :
  Calls Tryd.prog 60 #[.slice A0 l0.length c0, .slice A1 l1.length c1] w fun e w' => ∃ v0_ : Value, e = .returned (.tuple #[v0_, .int .i64 r2]) ∧ Kd.R k51 51 w' w.heap.size (fun _ => True) v0_ r1 ∧ Below w.heap.size w w' := by
 have HR0 := a_ hr0
 have HC0 := a_ hc0
 clear hr0 hc0
 have HR1 := a_ hr1
 have HC1 := a_ hc1
 clear hr1 hc1
 have HB := a_ (Below.refl w.heap.size w)
 have H : ((waterhourref04_Valid.f k l0).bind fun t908 => (if t908 = true then ((waterhourref04_Valid.f k l1).bind fun t909 => (waterhourref04_Joined.j0 k l0 l1 (!t909))) else (waterhourref04_Joined.j0 k l0 l1 true))) = some (r1, r2) := h
 clear h
 have HC3 := a_ H
 clear H
 go_enter Tryd.func60, Tryd.ntmps60
 go_upto_region 1 with (fail)
 go_cut [13] (fun v13 wc => ∃ (kq : Nat) (x13_2 : Bool), v13 = .bool x13_2 ∧ Aside0 (waterhourref04_Joined.j0 kq l0 l1 x13_2 = some (r1, r2)) ∧ Aside0 (kq ≤ k) ∧ Aside0 (Below w.heap.size w wc))
 case first =>
  have H := HC3.out
  clear HC3
  replace H := Option.bind_eq_some_iff.mp H
  obtain ⟨t908, A40, H⟩ := H
  replace H : (if t908 = true then ((waterhourref04_Valid.f k l1).bind fun t909 => (waterhourref04_Joined.j0 k l0 l1 (!t909))) else (waterhourref04_Joined.j0 k l0 l1 true)) = some (r1, r2) := H
  have A4 := a_ A40
  clear A40
  by_cases c5 : t908 = true
  ·subst c5
   have H1 : ((waterhourref04_Valid.f k l1).bind fun t909 => (waterhourref04_Joined.j0 k l0 l1 (!t909))) = some (r1, r2) := by rw [if_pos rfl] at H; exact H
   clear H
   have H := H1
   clear H1
   replace H := Option.bind_eq_some_iff.mp H
   obtain ⟨t909, A60, H⟩ := H
   replace H : (waterhourref04_Joined.j0 k l0 l1 (!t909)) = some (r1, r2) := H
   have A6 := a_ A60
   clear A60
   have H' := a_ H
   clear H
   go_wp2_with (first | ((with_reducible refine gate_callee (f := 31) rfl ?_); refine goesL_ (some 7) rfl rfl Tryd.func31 (by kernel_rfl) rfl #[.slice A0 l0.length c0] rfl tm_ ?_; (with_reducible refine (waterhourref04_Valid.calls k _ _ l0 true _ ?side1 ?side2 A4.out).mono ?_); (case side1 => exact cl_ (Kd.C_below HR0.out HB.out)); (case side2 => exact HC0.out); rintro e w7 ⟨rfl, hb⟩; refine ⟨_, rfl, ?_⟩; have n0_ := a_ (below_step bl_ hb); clear HB; have HB := n0_; clear n0_; (try clear hb); (try clear hb2); (try clear hk); (try clear hi)) | (go_at_call 31; (with_reducible refine (waterhourref04_Valid.calls k _ _ l1 t909 _ ?side1 ?side2 A6.out).mono ?_); (case side1 => exact cl_ (Kd.C_below HR1.out HB.out)); (case side2 => exact HC1.out); rintro e w8 ⟨rfl, hb⟩; have n0_ := a_ (below_step bl_ hb); clear HB; have HB := n0_; clear n0_; (try clear hb); (try clear hb2); (try clear hk); (try clear hi)))
   go_meet
   case rel => exact ⟨_, (!t909), (by first | rfl | (simp; done) | (simp [*]; done)), H', ⟨by first | omega | exact Nat.le_refl _⟩, ⟨bl_⟩⟩
  ·replace c5 := Bool.eq_false_iff.mpr c5
   subst c5
   have H1 : (waterhourref04_Joined.j0 k l0 l1 true) = some (r1, r2) := by rw [if_neg (show ¬ (false = true) by decide)] at H; exact H
   clear H
   have H := H1
   clear H1
   have H' := a_ H
   clear H
   go_wp2_with (first | ((with_reducible refine gate_callee (f := 31) rfl ?_); refine goesL_ (some 7) rfl rfl Tryd.func31 (by kernel_rfl) rfl #[.slice A0 l0.length c0] rfl tm_ ?_; (with_reducible refine (waterhourref04_Valid.calls k _ _ l0 false _ ?side1 ?side2 A4.out).mono ?_); (case side1 => exact cl_ (Kd.C_below HR0.out HB.out)); (case side2 => exact HC0.out); rintro e w9 ⟨rfl, hb⟩; refine ⟨_, rfl, ?_⟩; have n0_ := a_ (below_step bl_ hb); clear HB; have HB := n0_; clear n0_; (try clear hb); (try clear hb2); (try clear hk); (try clear hi)))
   go_meet
   case rel => exact ⟨_, (true), (by first | rfl | (simp; done) | (simp [*]; done)), H', ⟨by first | omega | exact Nat.le_refl _⟩, ⟨bl_⟩⟩
 case rest =>
  clear HC3
  try clear c1
  try clear p2
  try clear c3
  try clear c5
  try clear c6
  obtain ⟨kq, x13_2, rfl, HA, HJ2, HB⟩ := hcut
  cases kq with
  | zero => exact absurd HA.out (by simp [waterhourref04_Joined.j0])
  | succ kj2 =>
   have H := HA.out
   clear HA
   simp only [waterhourref04_Joined.j0] at H
   by_cases c10 : x13_2 = true
   ·subst c10
    have H1 : (some (([] : List (S51)), 40)) = some (r1, r2) := by rw [if_pos rfl] at H; exact H
    clear H
    have H := H1
    clear H1
    simp only [Option.some.injEq, Prod.mk.injEq] at H
    obtain ⟨rfl, rfl⟩ := H
    go_wp2
    go_ret2
    exact ⟨_, by first | rfl | (simp [errW_none, errW_some] <;> rfl) | (simp [*, errW_none, errW_some] <;> rfl), by first | exact Kd.R_nil _ _ _ _ _ | exact Kd.N_nil _ _ _ _ _ | exact Kd.V_nil _ _ _ _ _ | exact Kd.Q_nil _ _ _ _ _ | exact Kd.S_nil _ _ _ _ _, bl_⟩
   ·replace c10 := Bool.eq_false_iff.mpr c10
    subst c10
    have H1 : (if (wrap64 ((l0.length : Int) + (l1.length : Int))) > 32 then (some (([] : List (S51)), 2)) else ((waterhourref04_copied.f l0).bind fun t910 => (if t910.length + l1.length < 4398046511104 then (some ((t910 ++ l1), 0)) else (none)))) = some (r1, r2) := by rw [if_neg (show ¬ (false = true) by decide)] at H; exact H
    clear H
    have H := H1
    clear H1
    by_cases c11 : (wrap64 ((l0.length : Int) + (l1.length : Int))) > 32
    ·rw [if_pos c11] at H
     have c11b0 : decide (32 < (wrap64 ((l0.length : Int) + (l1.length : Int)))) = true := decide_eq_true c11
     clear c11
     simp only [Option.some.injEq, Prod.mk.injEq] at H
     obtain ⟨rfl, rfl⟩ := H
     go_wp2
     go_ret2
     exact ⟨_, by first | rfl | (simp [errW_none, errW_some] <;> rfl) | (simp [*, errW_none, errW_some] <;> rfl), by first | exact Kd.R_nil _ _ _ _ _ | exact Kd.N_nil _ _ _ _ _ | exact Kd.V_nil _ _ _ _ _ | exact Kd.Q_nil _ _ _ _ _ | exact Kd.S_nil _ _ _ _ _, bl_⟩
    ·rw [if_neg c11] at H
     have c11b0 : decide (32 < (wrap64 ((l0.length : Int) + (l1.length : Int)))) = false := decide_eq_false c11
     clear c11
     replace H := Option.bind_eq_some_iff.mp H
     obtain ⟨t910, A120, H⟩ := H
     replace H : (if t910.length + l1.length < 4398046511104 then (some ((t910 ++ l1), 0)) else (none)) = some (r1, r2) := H
     have A12 := a_ A120
     clear A120
     by_cases c13 : t910.length + l1.length < 4398046511104
     ·rw [if_pos c13] at H
      have LMc13 := a_ c13
      clear c13
      obtain ⟨y913, hy913⟩ : ∃ y_ : List (S51), y_ = (t910 ++ l1) := ⟨_, rfl⟩
      replace H : (some (y913, 0)) = some (r1, r2) := by first | (rw [hy913]; with_reducible exact H) | (have H2_ := (Option.bind_some _ _).symm.trans H; rw [hy913]; with_reducible exact H2_) | (have H2_ := (Option.bind_some _ _).symm.trans H; with_reducible exact H2_) | with_reducible exact H | (rw [hy913]; exact H) | exact H
      have Ny913 := a_ hy913
      clear hy913
      simp only [Option.some.injEq, Prod.mk.injEq] at H
      obtain ⟨rfl, rfl⟩ := H
      go_wp2_with (first | ((with_reducible refine gate_callee (f := 67) rfl ?_); refine goesL_ (some 21) rfl rfl Tryd.func67 (by kernel_rfl) rfl #[.slice A0 l0.length c0] rfl tm_ ?_; (with_reducible refine (waterhourref04_copied.calls _ _ l0 t910 _ ?side1 ?side2 A12.out).mono ?_); (case side1 => exact cl_ (Kd.C_below HR0.out HB.out)); (case side2 => exact HC0.out); rintro e w14 ⟨v911, rfl, ho0, hb⟩; refine ⟨_, rfl, ?_⟩; have n0_ := a_ (Kd.R_lower ho0 (below_size bl_)); have n1_ := a_ (below_step bl_ hb); clear HB; have HO912 := n0_; have HB := n1_; clear n0_ n1_; (try clear hb); (try clear hb2); (try clear hk); (try clear hi); (try clear ho0)) | ((with_reducible refine gate_builtin (b := .append) (xs := #[.tmp 21, .tmp 22]) rfl ?_); at_builtin; refine Kd.R_append_rows k51 (w0 := w) w.heap.size rfl (.tmp 21) (.tmp 22) 23 51 (.agg #[(.int .i64 0), (.int .i64 0), (.int .i64 0), (.int .i64 0)]) 32 rfl Tryd.underlying23 info51 rfl (by decide) (by omega) v911 t910 l1 _ _ _ (fun _ => True) (fun _ => False) rfl rfl ?aO ?aR (fun _ _ h => h) (fun _ h => h.elim) ?aF ?aB ?aS ?aL ?_; (case aR => exact cl_ (Kd.C_below HR1.out HB.out)); (case aB => exact bl_); (case aF => exact (fun _ _ => trivial)); (case aO => exact (rl_ HO912.out)); (case aS => exact (below_size bl_)); (case aL => have := LMc13.out; omega); intro v914 w15 ho hb hg hat; rw [← Ny913.out] at ho; have n0_ := a_ (hb); have n1_ := a_ (ho); clear HB; clear HO912; have HB := n0_; have HO915 := n1_; clear n0_ n1_; clear ho hb hg hat))
      go_ret2
      exact ⟨_, by first | rfl | (simp [errW_none, errW_some] <;> rfl) | (simp [*, errW_none, errW_some] <;> rfl), by (with_reducible repeat (first | apply Kd.R_alloc | apply Kd.R_drewN | apply Kd.R_drew)); exact HO915.out, bl_⟩
     ·rw [if_neg c13] at H
      exact absurd H (by simp)
end Go.Proofs.YtgiihjcpgjpkcaaDoor.Q
