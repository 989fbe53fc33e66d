/- Contracts of functions of the given program: each Go function as a plain Lean function (name.f) and the proof that its call answers just so, for every reading of its arguments. Written by the session's program wip/xprint.py out of the translation. -/
import Derived.Test.YtgiihjcpgjpkcaaDoorQ0
import Derived.Test.YtgiihjcpgjpkcaaDoorQC
import Derived.Test.YtgiihjcpgjpkcaaDoorQDb
namespace Go.Proofs.YtgiihjcpgjpkcaaDoor.Q
open Go.RowKit Go.Proofs.YtgiihjcpgjpkcaaDoorW.PrintWords Go.Proofs.YtgiihjcpgjpkcaaDoorW.PrintLast Go.Proofs.YtgiihjcpgjpkcaaDoorW.PrintMore
attribute [local go_sem] max2_int min2_int max_two min_two max_three min_three max_four min_four   -- for this text's walks alone
set_option linter.unusedVariables false
set_option linter.unusedSimpArgs false

/-! ### waterhourref04_Check: function 48 -/
def waterhourref04_Check.f (k : Nat) (l0 : List (S51)) : Option (Int) := (waterhourref04_Valid.f k l0).bind fun t690 => (if t690 = true then (some 0) else (some 40))
theorem waterhourref04_Check.mono : ∀ a0 k, LeO (waterhourref04_Check.f k a0) (waterhourref04_Check.f (k + 1) a0) := by
 intro a0 k
 unfold waterhourref04_Check.f
 repeat' first
   | (with_reducible exact waterhourref04_Valid.mono _ _)
   | (with_reducible exact LeO.refl _)
   | (with_reducible exact LeO.none _)
   | (with_reducible refine LeO.ite ?_ ?_)
   | (with_reducible refine LeO.bind ?_ (fun _ => ?_))
   | exact waterhourref04_Valid.mono _ _
   | exact LeO.none _
   | refine LeO.ite ?_ ?_
   | refine LeO.bind ?_ (fun _ => ?_)
set_option maxHeartbeats 8000000 in
set_option maxRecDepth 100000 in
theorem waterhourref04_Check.calls (k : Nat) (A0 : Option Addr) (c0 : Nat) (l0 : List (S51)) (r : Int) (w : World) (hr0 : Kd.C k51 w A0 l0.length l0) (hc0 : l0.length ≤ c0) (h : waterhourref04_Check.f k l0 = some r) :
  Calls Tryd.prog 48 #[.slice A0 l0.length c0] w fun e w' => e = .returned (.int .i64 r) ∧ Below w.heap.size w w' := by
 have HR0 := a_ hr0
 have HC0 := a_ hc0
 clear hr0 hc0
 have HB := a_ (Below.refl w.heap.size w)
 have H : ((waterhourref04_Valid.f k l0).bind fun t690 => (if t690 = true then (some 0) else (some 40))) = some r := h
 clear h
 replace H := Option.bind_eq_some_iff.mp H
 obtain ⟨t690, A20, H⟩ := H
 replace H : (if t690 = true then (some 0) else (some 40)) = some r := H
 have A2 := a_ A20
 clear A20
 by_cases c3 : t690 = true
 ·subst c3
  have H1 : (some 0) = some r := by rw [if_pos rfl] at H; exact H
  clear H
  have H := H1
  clear H1
  obtain rfl := Option.some.inj H
  go_enter Tryd.func48, Tryd.ntmps48
  go_wp2_with (first | ((with_reducible refine gate_callee (f := 31) rfl ?_); refine goesL_ (some 4) rfl rfl Tryd.func31 (by kernel_rfl) rfl #[.slice A0 l0.length c0] rfl tm_ ?_; (with_reducible refine (waterhourref04_Valid.calls k _ _ l0 true _ ?side1 ?side2 A2.out).mono ?_); (case side1 => exact cl_ HR0.out); (case side2 => exact HC0.out); rintro e w4 ⟨rfl, hb⟩; refine ⟨_, rfl, ?_⟩; have n0_ := a_ (below_step bl_ hb); clear HB; have HB := n0_; clear n0_; (try clear hb); (try clear hb2); (try clear hk); (try clear hi)))
  go_ret
  exact ⟨by first | rfl | (simp [errW_none, errW_some] <;> rfl) | (simp [*, errW_none, errW_some] <;> rfl), bl_⟩
 ·replace c3 := Bool.eq_false_iff.mpr c3
  subst c3
  have H1 : (some 40) = some r := by rw [if_neg (show ¬ (false = true) by decide)] at H; exact H
  clear H
  have H := H1
  clear H1
  obtain rfl := Option.some.inj H
  go_enter Tryd.func48, Tryd.ntmps48
  go_wp2_with (first | ((with_reducible refine gate_callee (f := 31) rfl ?_); refine goesL_ (some 4) rfl rfl Tryd.func31 (by kernel_rfl) rfl #[.slice A0 l0.length c0] rfl tm_ ?_; (with_reducible refine (waterhourref04_Valid.calls k _ _ l0 false _ ?side1 ?side2 A2.out).mono ?_); (case side1 => exact cl_ HR0.out); (case side2 => exact HC0.out); rintro e w5 ⟨rfl, hb⟩; refine ⟨_, rfl, ?_⟩; have n0_ := a_ (below_step bl_ hb); clear HB; have HB := n0_; clear n0_; (try clear hb); (try clear hb2); (try clear hk); (try clear hi)))
  go_ret
  exact ⟨by first | rfl | (simp [errW_none, errW_some] <;> rfl) | (simp [*, errW_none, errW_some] <;> rfl), bl_⟩

/-! ### waterhourref04_Latest: function 52 -/
def waterhourref04_Latest.l0 : Nat → List (S51) → List Int → Int → Option (List Int × Int)
 | 0, _, _, _ => none
 | k + 1, x0, x5, x6 => if x6 < (x0.length : Int) then ((waterhourref04_time.f k x0 x6).bind fun bt692 => (if x5.length < 17592186044416 then (waterhourref04_Latest.l0 k x0 (x5 ++ [bt692.2]) (wrap64 (x6 + 1))) else (none))) else (some (x5, 0))
def waterhourref04_Latest.f (k : Nat) (l0 : List (S51)) : Option (List Int × Int) := (waterhourref04_first.f k l0 ([] : List Int)).bind fun t691 => (if t691 = 0 then (waterhourref04_Latest.l0 k l0 ([] : List Int) 0) else (some (([] : List Int), t691)))
theorem waterhourref04_Latest.mono_l : ∀ k, (∀ y0 y1 y2, LeO (waterhourref04_Latest.l0 k y0 y1 y2) (waterhourref04_Latest.l0 (k + 1) y0 y1 y2))
 | 0 => fun _ _ _ r h => by simp [waterhourref04_Latest.l0] at h
 | k + 1 => by
  have ih0 := waterhourref04_Latest.mono_l k
  ·intro y0 y1 y2
   unfold waterhourref04_Latest.l0
   repeat' first
   | (with_reducible exact ih0 _ _ _)
   | (with_reducible exact waterhourref04_first.mono _ _ _)
   | (with_reducible exact waterhourref04_time.mono _ _ _)
   | (with_reducible exact LeO.refl _)
   | (with_reducible exact LeO.none _)
   | (with_reducible refine LeO.ite ?_ ?_)
   | (with_reducible refine LeO.bind ?_ (fun _ => ?_))
   | exact ih0 _ _ _
   | exact waterhourref04_first.mono _ _ _
   | exact waterhourref04_time.mono _ _ _
   | exact LeO.none _
   | refine LeO.ite ?_ ?_
   | refine LeO.bind ?_ (fun _ => ?_)
theorem waterhourref04_Latest.mono : ∀ a0 k, LeO (waterhourref04_Latest.f k a0) (waterhourref04_Latest.f (k + 1) a0) := by
 intro a0 k
 have ih0 := waterhourref04_Latest.mono_l k
 unfold waterhourref04_Latest.f
 repeat' first
   | (with_reducible exact ih0 _ _ _)
   | (with_reducible exact waterhourref04_first.mono _ _ _)
   | (with_reducible exact waterhourref04_time.mono _ _ _)
   | (with_reducible exact LeO.refl _)
   | (with_reducible exact LeO.none _)
   | (with_reducible refine LeO.ite ?_ ?_)
   | (with_reducible refine LeO.bind ?_ (fun _ => ?_))
   | exact ih0 _ _ _
   | exact waterhourref04_first.mono _ _ _
   | exact waterhourref04_time.mono _ _ _
   | exact LeO.none _
   | refine LeO.ite ?_ ?_
   | refine LeO.bind ?_ (fun _ => ?_)
set_option maxHeartbeats 8000000 in
set_option maxRecDepth 100000 in
theorem waterhourref04_Latest.calls (k : Nat) (A0 : Option Addr) (c0 : Nat) (l0 : List (S51)) (r1 : List Int) (r2 : Int) (w : World) (hr0 : Kd.C k51 w A0 l0.length l0) (hc0 : l0.length ≤ c0) (h : waterhourref04_Latest.f k l0 = some (r1, r2)) :
  Calls Tryd.prog 52 #[.slice A0 l0.length c0] w fun e w' => ∃ v0_ : Value, e = .returned (.tuple #[v0_, .int .i64 r2]) ∧ Kd.R (Kd.int .i64) 3 w' w.heap.size (fun _ => True) v0_ r1 ∧ Below w.heap.size w w' := by
 have hu49 := Tryd.underlying49
 have HR0 := a_ hr0
 have HC0 := a_ hc0
 clear hr0 hc0
 have HB := a_ (Below.refl w.heap.size w)
 have H : ((waterhourref04_first.f k l0 ([] : List Int)).bind fun t691 => (if t691 = 0 then (waterhourref04_Latest.l0 k l0 ([] : List Int) 0) else (some (([] : List Int), t691)))) = some (r1, r2) := h
 clear h
 replace H := Option.bind_eq_some_iff.mp H
 obtain ⟨t691, A20, H⟩ := H
 replace H : (if t691 = 0 then (waterhourref04_Latest.l0 k l0 ([] : List Int) 0) else (some (([] : List Int), t691))) = some (r1, r2) := H
 have A2 := a_ A20
 clear A20
 by_cases c3 : t691 = 0
 ·rw [if_pos c3] at H
  have c3b0 : (t691 == 0) = true := beq_iff_eq.mpr c3
  have c3b1 : (t691 != 0) = false := bne_eq_false_iff_eq.mpr c3
  clear c3
  have H' := a_ H
  clear H
  go_enter Tryd.func52, Tryd.ntmps52
  go_wp2_with (first | ((with_reducible refine gate_callee (f := 78) rfl ?_); refine goesL_ (some 9) rfl rfl Tryd.func78 (by kernel_rfl) rfl #[.slice A0 l0.length c0, .slice none 0 0] rfl tm_ ?_; (refine (waterhourref04_first.calls k _ _ l0 _ _ ([] : List Int) t691 _ ?side1 ?side2 ?side3 ?side4 A2.out).mono ?_); (case side1 => exact cl_ HR0.out); (case side2 => exact HC0.out); (case side3 => exact Kd.C_nil _ _); (case side4 => exact Nat.le_refl _); rintro e w4 ⟨rfl, hb⟩; refine ⟨_, rfl, ?_⟩; have n0_ := a_ (below_step bl_ hb); clear HB; have HB := n0_; clear n0_; (try clear hb); (try clear hb2); (try clear hk); (try clear hi)))
  go_loopg [5, 6] k (fun kq v5 v6 w' => ∃ (x5_1 : List Int) (x6_1 : Int), v6 = .int .i64 x6_1 ∧ Aside0 (waterhourref04_Latest.l0 kq l0 x5_1 x6_1 = some (r1, r2)) ∧ Aside0 (kq ≤ k) ∧ Aside0 (Kd.R (Kd.int .i64) 3 w' w.heap.size (fun _ => True) v5 x5_1) ∧ Aside0 (Below w.heap.size w w'))
  case atStart => exact ⟨(([] : List Int)), (0), (by first | rfl | (simp; done) | (simp [*]; done)), H', ⟨Nat.le_refl _⟩, ⟨by first | exact Kd.R_nil _ _ _ _ _ | exact Kd.N_nil _ _ _ _ _ | exact Kd.V_nil _ _ _ _ _ | exact Kd.Q_nil _ _ _ _ _ | exact Kd.S_nil _ _ _ _ _⟩, ⟨bl_⟩⟩
  case round =>
   clear H'
   try clear p2
   try clear c3
   try clear c3b0
   try clear c3b1
   obtain ⟨x5_1, x6_1, rfl, HA, HK1, HO_5, HB⟩ := hrel
   cases gk with
   | zero => exact absurd HA.out (by simp [waterhourref04_Latest.l0])
   | succ k1 =>
    have H := HA.out
    clear HA
    simp only [waterhourref04_Latest.l0] at H
    by_cases c5 : x6_1 < (l0.length : Int)
    ·rw [if_pos c5] at H
     have c5b0 : decide (x6_1 < (l0.length : Int)) = true := decide_eq_true c5
     clear c5
     replace H := Option.bind_eq_some_iff.mp H
     obtain ⟨⟨t692, t693⟩, A60, H⟩ := H
     replace H : (if x5_1.length < 17592186044416 then (waterhourref04_Latest.l0 k1 l0 (x5_1 ++ [t693]) (wrap64 (x6_1 + 1))) else (none)) = some (r1, r2) := H
     have A6 := a_ A60
     clear A60
     by_cases c7 : x5_1.length < 17592186044416
     ·rw [if_pos c7] at H
      have LMc7 := a_ c7
      clear c7
      obtain ⟨y695, hy695⟩ : ∃ y_ : List Int, y_ = (x5_1 ++ [t693]) := ⟨_, rfl⟩
      replace H : (waterhourref04_Latest.l0 k1 l0 y695 (wrap64 (x6_1 + 1))) = some (r1, r2) := by first | (rw [hy695]; with_reducible exact H) | (have H2_ := (Option.bind_some _ _).symm.trans H; rw [hy695]; with_reducible exact H2_) | (have H2_ := (Option.bind_some _ _).symm.trans H; with_reducible exact H2_) | with_reducible exact H | (rw [hy695]; exact H) | exact H
      have Ny695 := a_ hy695
      clear hy695
      have H' := a_ H
      clear H
      go_wp2_with (first | ((with_reducible refine gate_callee (f := 66) rfl ?_); refine goesL_ (some 21) rfl rfl Tryd.func66 (by kernel_rfl) rfl #[.slice A0 l0.length c0, .int .i64 x6_1] rfl tm_ ?_; (with_reducible refine (waterhourref04_time.calls k1 _ _ l0 x6_1 t692 t693 _ ?side1 ?side2 A6.out).mono ?_); (case side1 => exact cl_ (Kd.C_below HR0.out HB.out)); (case side2 => exact HC0.out); rintro e w8 ⟨rfl, hb⟩; refine ⟨_, rfl, ?_⟩; have n0_ := a_ (Kd.R_below (rl_ HO_5.out) hb); have n1_ := a_ (below_step bl_ hb); clear HO_5; clear HB; have HO_5 := n0_; have HB := n1_; clear n0_ n1_; (try clear hb); (try clear hb2); (try clear hk); (try clear hi)) | ((with_reducible refine gate_dst (N := 7) rfl ?_); refine box_event ?hg (N := 7) ?hd (cs := #[.int .i64 0, .int .i64 0]) (t := 49) ?hr ?_; (case hd => rfl); (case hg => rfl); (case hr => first | (go_simp; done) | (go_simp; rfl)); intro gb694 hg w9 hbox hb; have n0_ := a_ (Kd.R_below (rl_ HO_5.out) hb); have n1_ := a_ (below_step bl_ hb); have n2_ := a_ (hbox); have n3_ := a_ ((bz_ (w := w) hg)); have n4_ := a_ ((bz_ (w := w) hg)); clear HO_5; clear HB; have HO_5 := n0_; have HB := n1_; have BK694 := n2_; have GW694 := n3_; have GE694 := n4_; clear n0_ n1_ n2_ n3_ n4_; clear hb hbox hg; have hcz10_0 : w9.cell? ⟨gb694, 0, none⟩ = some (.int .i64 0) := (blk_cell BK694.out 0).trans rfl; have hcz10_1 : w9.cell? ⟨gb694, 1, none⟩ = some (.int .i64 0) := (blk_cell BK694.out 1).trans rfl; have hfz10_0 := blk_frozen BK694.out 0; have hfz10_1 := blk_frozen BK694.out 1) | ((with_reducible refine gate_builtin (b := .append) (xs := #[.tmp 22, .tmp 25]) rfl ?_); at_builtin; refine Kd.R_append (Kd.int .i64) (w0 := w) w.heap.size rfl (.tmp 22) (.tmp 25) 26 3 (.int .i64 0) 8 rfl Tryd.underlying26 info3 rfl (by decide) (by omega) u5 x5_1 t693 [.int .i64 t693] (fun _ => True) (fun _ => False) rfl (by first | (go_simp; done) | (go_simp; rfl)) ?aP (fun _ hk => hk.elim) ?aF ?aO ?aB ?aS ?aL ?_; (case aP => exact rfl); (case aB => exact bl_); (case aF => exact (fun _ _ => trivial)); (case aO => exact (rl_ (Kd.R_mono (Kd.R_far (p := ⟨gb694, 1, none⟩) (Kd.R_far (p := ⟨gb694, 0, none⟩) (Kd.R_types HO_5.out BK694.out (by decide)) (fun _ hk => hk.2) (.int .i64 t692)) (fun _ hk => hk.2) (.int .i64 t693)) (fun _ hk => trivial)))); (case aS => exact (below_size bl_)); (case aL => have := LMc7.out; omega); intro v696 w11 ho hb hg hat; rw [← Ny695.out] at ho; have n0_ := a_ (blk_grown (g := gb694) (o := .cells #[.int .i64 t692, .int .i64 t693] 49 (0, 0)) (by (with_reducible repeat (first | refine blk_drewN ?_ _ | refine blk_drew ?_ | refine blk_alloc ?_ _)); refine blk_put (cs := #[.int .i64 t692, .int .i64 0]) ?_ 1 _ rfl; (with_reducible repeat (first | refine blk_drewN ?_ _ | refine blk_drew ?_ | refine blk_alloc ?_ _)); refine blk_put (cs := #[.int .i64 0, .int .i64 0]) ?_ 0 _ rfl; (with_reducible repeat (first | refine blk_drewN ?_ _ | refine blk_drew ?_ | refine blk_alloc ?_ _)); exact BK694.out) hg (Kd.R_ne HO_5.out BK694.out (by decide))); have n1_ := a_ (hb); have n2_ := a_ (ho); clear BK694; clear HB; clear HO_5; have BK694 := n0_; have HB := n1_; have HO697 := n2_; clear n0_ n1_ n2_; clear ho hb hg hat))
      go_roundg k1
      case measure => have := HK1.out; omega
      case rel => exact ⟨(y695), (wrap64 (x6_1 + 1)), (by first | rfl | (simp; done) | (simp [*]; done)), H', ⟨by have := HK1.out; omega⟩, ⟨rl_ HO697.out⟩, ⟨bl_⟩⟩
     ·rw [if_neg c7] at H
      exact absurd H (by simp)
    ·rw [if_neg c5] at H
     have c5b0 : decide (x6_1 < (l0.length : Int)) = false := decide_eq_false c5
     clear c5
     simp only [Option.some.injEq, Prod.mk.injEq] at H
     obtain ⟨rfl, rfl⟩ := H
     go_wp2
     go_ret2
     exact ⟨_, by first | rfl | (simp [errW_none, errW_some] <;> rfl) | (simp [*, errW_none, errW_some] <;> rfl), by (with_reducible repeat (first | apply Kd.R_alloc | apply Kd.R_drewN | apply Kd.R_drew)); exact HO_5.out, bl_⟩
 ·rw [if_neg c3] at H
  have c3b0 : (t691 == 0) = false := beq_eq_false_iff_ne.mpr c3
  have c3b1 : (t691 != 0) = true := bne_iff_ne.mpr c3
  simp only [Option.some.injEq, Prod.mk.injEq] at H
  obtain ⟨rfl, rfl⟩ := H
  go_enter Tryd.func52, Tryd.ntmps52
  go_wp2_with (first | ((with_reducible refine gate_callee (f := 78) rfl ?_); refine goesL_ (some 9) rfl rfl Tryd.func78 (by kernel_rfl) rfl #[.slice A0 l0.length c0, .slice none 0 0] rfl tm_ ?_; (refine (waterhourref04_first.calls k _ _ l0 _ _ ([] : List Int) t691 _ ?side1 ?side2 ?side3 ?side4 A2.out).mono ?_); (case side1 => exact cl_ HR0.out); (case side2 => exact HC0.out); (case side3 => exact Kd.C_nil _ _); (case side4 => exact Nat.le_refl _); rintro e w12 ⟨rfl, hb⟩; refine ⟨_, rfl, ?_⟩; have n0_ := a_ (below_step bl_ hb); clear HB; have HB := n0_; clear n0_; (try clear hb); (try clear hb2); (try clear hk); (try clear hi)))
  go_ret2
  exact ⟨_, by first | rfl | (simp [errW_none, errW_some] <;> rfl) | (simp [*, errW_none, errW_some] <;> rfl), by first | exact Kd.R_nil _ _ _ _ _ | exact Kd.N_nil _ _ _ _ _ | exact Kd.V_nil _ _ _ _ _ | exact Kd.Q_nil _ _ _ _ _ | exact Kd.S_nil _ _ _ _ _, bl_⟩

/-! ### waterhourref04_Time: function 53 -/
def waterhourref04_Time.f (k : Nat) (l0 : List (S51)) (a1 : Int) : Option (Int × Int × Int) := (waterhourref04_first.f k l0 (([a1] : List Int))).bind fun t702 => (if t702 = 0 then ((waterhourref04_time.f k l0 a1).bind fun bt703 => (some (bt703.1, bt703.2, 0))) else (some (0, 0, t702)))
theorem waterhourref04_Time.mono : ∀ a0 a1 k, LeO (waterhourref04_Time.f k a0 a1) (waterhourref04_Time.f (k + 1) a0 a1) := by
 intro a0 a1 k
 unfold waterhourref04_Time.f
 repeat' first
   | (with_reducible exact waterhourref04_first.mono _ _ _)
   | (with_reducible exact waterhourref04_time.mono _ _ _)
   | (with_reducible exact LeO.refl _)
   | (with_reducible exact LeO.none _)
   | (with_reducible refine LeO.ite ?_ ?_)
   | (with_reducible refine LeO.bind ?_ (fun _ => ?_))
   | exact waterhourref04_first.mono _ _ _
   | exact waterhourref04_time.mono _ _ _
   | exact LeO.none _
   | refine LeO.ite ?_ ?_
   | refine LeO.bind ?_ (fun _ => ?_)
set_option maxHeartbeats 8000000 in
set_option maxRecDepth 100000 in
theorem waterhourref04_Time.calls (k : Nat) (A0 : Option Addr) (c0 : Nat) (l0 : List (S51)) (a1 : Int) (r1 : Int) (r2 : Int) (r3 : Int) (w : World) (hr0 : Kd.C k51 w A0 l0.length l0) (hc0 : l0.length ≤ c0) (h : waterhourref04_Time.f k l0 a1 = some (r1, r2, r3)) :
  Calls Tryd.prog 53 #[.slice A0 l0.length c0, .int .i64 a1] w fun e w' => e = .returned (.tuple #[.agg #[.int .i64 r1, .int .i64 r2], .int .i64 r3]) ∧ Below w.heap.size w w' := by
 have hu49 := Tryd.underlying49
 have HR0 := a_ hr0
 have HC0 := a_ hc0
 clear hr0 hc0
 have HB := a_ (Below.refl w.heap.size w)
 have H : ((waterhourref04_first.f k l0 (([a1] : List Int))).bind fun t702 => (if t702 = 0 then ((waterhourref04_time.f k l0 a1).bind fun bt703 => (some (bt703.1, bt703.2, 0))) else (some (0, 0, t702)))) = some (r1, r2, r3) := h
 clear h
 obtain ⟨y699, hy699⟩ : ∃ y_ : List Int, y_ = (([a1] : List Int)) := ⟨_, rfl⟩
 replace H : ((waterhourref04_first.f k l0 y699).bind fun t702 => (if t702 = 0 then ((waterhourref04_time.f k l0 a1).bind fun bt703 => (some (bt703.1, bt703.2, 0))) else (some (0, 0, t702)))) = some (r1, r2, r3) := by first | (rw [hy699]; with_reducible exact H) | (have H2_ := (Option.bind_some _ _).symm.trans H; rw [hy699]; with_reducible exact H2_) | (have H2_ := (Option.bind_some _ _).symm.trans H; with_reducible exact H2_) | with_reducible exact H | (rw [hy699]; exact H) | exact H
 have Ny699 := a_ hy699
 clear hy699
 replace H := Option.bind_eq_some_iff.mp H
 obtain ⟨t702, A30, H⟩ := H
 replace H : (if t702 = 0 then ((waterhourref04_time.f k l0 a1).bind fun bt703 => (some (bt703.1, bt703.2, 0))) else (some (0, 0, t702))) = some (r1, r2, r3) := H
 have A3 := a_ A30
 clear A30
 by_cases c4 : t702 = 0
 ·rw [if_pos c4] at H
  have c4b0 : (t702 == 0) = true := beq_iff_eq.mpr c4
  have c4b1 : (t702 != 0) = false := bne_eq_false_iff_eq.mpr c4
  clear c4
  replace H := Option.bind_eq_some_iff.mp H
  obtain ⟨⟨t703, t704⟩, A50, H⟩ := H
  replace H : (some (t703, t704, 0)) = some (r1, r2, r3) := H
  have A5 := a_ A50
  clear A50
  simp only [Option.some.injEq, Prod.mk.injEq] at H
  obtain ⟨rfl, rfl, rfl⟩ := H
  go_enter Tryd.func53, Tryd.ntmps53
  go_wp2_with (first | ((with_reducible refine gate_dst (N := 4) rfl ?_); refine box_event ?hg (N := 4) ?hd (cs := #[.int .i64 0, .int .i64 0]) (t := 49) ?hr ?_; (case hd => rfl); (case hg => rfl); (case hr => first | (go_simp; done) | (go_simp; rfl)); intro gb698 hg w6 hbox hb; have n0_ := a_ (below_step bl_ hb); have n1_ := a_ (hbox); have n2_ := a_ ((bz_ (w := w) hg)); have n3_ := a_ ((bz_ (w := w) hg)); clear HB; have HB := n0_; have BK698 := n1_; have GW698 := n2_; have GE698 := n3_; clear n0_ n1_ n2_ n3_; clear hb hbox hg) | ((with_reducible refine gate_dst (N := 9) rfl ?_); refine Kd.R_lit (Kd.int .i64) _ 3 ?hg (N := 9) ?hd (xs := ([a1] : List Int)) (inner := [.int .i64 a1]) (ok := fun _ => True) (okp := fun _ => True) ?hr ?hp (fun _ hk => hk) trivial (Below.refl _ _) (Nat.le_refl _) (by simp) ?_; (case hd => rfl); (case hg => rfl); (case hr => first | (go_simp; done) | (go_simp; rfl)); (case hp => exact (Reps.one (show Kd.M (Kd.int .i64) _ _ _ a1 [.int .i64 a1] from rfl) (Reps.none _ _))); intro v700 w7 ho8 hb hg_ hnew_; clear hg_ hnew_; (first | rw [← Ny699.out] at ho8 | (simp only [Int.reduceToNat] at ho8; rw [← Ny699.out] at ho8)); have n0_ := a_ (Kd.R_lower ho8 (below_size bl_)); have n1_ := a_ (bb_ BK698.out hb); have n2_ := a_ (below_step bl_ hb); clear BK698; clear HB; have HO701 := n0_; have BK698 := n1_; have HB := n2_; clear n0_ n1_ n2_; clear hb ho8; obtain ⟨Ao9, co9, eo9⟩ := Kd.R_slice HO701.out; subst eo9) | ((with_reducible refine gate_callee (f := 78) rfl ?_); refine goesL_ (some 10) rfl rfl Tryd.func78 (by kernel_rfl) rfl #[.slice A0 l0.length c0, .slice Ao9 y699.length co9] rfl tm_ ?_; (with_reducible refine (waterhourref04_first.calls k _ _ l0 _ _ y699 t702 _ ?side1 ?side2 ?side3 ?side4 A3.out).mono ?_); (case side1 => exact cl_ (Kd.C_below HR0.out HB.out)); (case side2 => exact HC0.out); (case side3 => exact cl_ ((Kd.R_reads' HO701.out).2.2)); (case side4 => exact (Kd.R_reads' HO701.out).2.1); rintro e w10 ⟨rfl, hb⟩; refine ⟨_, rfl, ?_⟩; have n0_ := a_ (Kd.R_below (rl_ HO701.out) hb); have n1_ := a_ (bb_ BK698.out hb); have n2_ := a_ (below_step bl_ hb); clear HO701; clear BK698; clear HB; have HO701 := n0_; have BK698 := n1_; have HB := n2_; clear n0_ n1_ n2_; (try clear hb); (try clear hb2); (try clear hk); (try clear hi)) | ((with_reducible refine gate_callee (f := 66) rfl ?_); refine goesL_ (some 17) rfl rfl Tryd.func66 (by kernel_rfl) rfl #[.slice A0 l0.length c0, .int .i64 a1] rfl tm_ ?_; (with_reducible refine (waterhourref04_time.calls k _ _ l0 a1 t703 t704 _ ?side1 ?side2 A5.out).mono ?_); (case side1 => exact cl_ (Kd.C_below HR0.out HB.out)); (case side2 => exact HC0.out); rintro e w11 ⟨rfl, hb⟩; refine ⟨_, rfl, ?_⟩; have n0_ := a_ (Kd.R_below (rl_ HO701.out) hb); have n1_ := a_ (bb_ BK698.out hb); have n2_ := a_ (below_step bl_ hb); clear HO701; clear BK698; clear HB; have HO701 := n0_; have BK698 := n1_; have HB := n2_; clear n0_ n1_ n2_; (try clear hb); (try clear hb2); (try clear hk); (try clear hi); have hcz12_0 : w11.cell? ⟨gb698, 0, none⟩ = some (.int .i64 0) := (blk_cell BK698.out 0).trans rfl; have hcz12_1 : w11.cell? ⟨gb698, 1, none⟩ = some (.int .i64 0) := (blk_cell BK698.out 1).trans rfl; have hfz12_0 := blk_frozen BK698.out 0; have hfz12_1 := blk_frozen BK698.out 1))
  refine bodyPost_ret (results_ct rfl _ _ gb698 49 #[.int .i64 t703, .int .i64 t704] (0, 0) _ rfl (by (with_reducible repeat (first | refine blk_drewN ?_ _ | refine blk_drew ?_ | refine blk_alloc ?_ _)); refine blk_put (cs := #[.int .i64 t703, .int .i64 0]) ?_ 1 _ rfl; (with_reducible repeat (first | refine blk_drewN ?_ _ | refine blk_drew ?_ | refine blk_alloc ?_ _)); refine blk_put (cs := #[.int .i64 0, .int .i64 0]) ?_ 0 _ rfl; (with_reducible repeat (first | refine blk_drewN ?_ _ | refine blk_drew ?_ | refine blk_alloc ?_ _)); exact BK698.out) Tryd.underlying49 rfl (by kernel_rfl)) rfl ?_
  exact ⟨by first | rfl | (simp [errW_none, errW_some] <;> rfl) | (simp [*, errW_none, errW_some] <;> rfl), bl_⟩
 ·rw [if_neg c4] at H
  have c4b0 : (t702 == 0) = false := beq_eq_false_iff_ne.mpr c4
  have c4b1 : (t702 != 0) = true := bne_iff_ne.mpr c4
  simp only [Option.some.injEq, Prod.mk.injEq] at H
  obtain ⟨rfl, rfl, rfl⟩ := H
  go_enter Tryd.func53, Tryd.ntmps53
  go_wp2_with (first | ((with_reducible refine gate_dst (N := 4) rfl ?_); refine box_event ?hg (N := 4) ?hd (cs := #[.int .i64 0, .int .i64 0]) (t := 49) ?hr ?_; (case hd => rfl); (case hg => rfl); (case hr => first | (go_simp; done) | (go_simp; rfl)); intro gb698 hg w13 hbox hb; have n0_ := a_ (below_step bl_ hb); have n1_ := a_ (hbox); have n2_ := a_ ((bz_ (w := w) hg)); have n3_ := a_ ((bz_ (w := w) hg)); clear HB; have HB := n0_; have BK698 := n1_; have GW698 := n2_; have GE698 := n3_; clear n0_ n1_ n2_ n3_; clear hb hbox hg) | ((with_reducible refine gate_dst (N := 9) rfl ?_); refine Kd.R_lit (Kd.int .i64) _ 3 ?hg (N := 9) ?hd (xs := ([a1] : List Int)) (inner := [.int .i64 a1]) (ok := fun _ => True) (okp := fun _ => True) ?hr ?hp (fun _ hk => hk) trivial (Below.refl _ _) (Nat.le_refl _) (by simp) ?_; (case hd => rfl); (case hg => rfl); (case hr => first | (go_simp; done) | (go_simp; rfl)); (case hp => exact (Reps.one (show Kd.M (Kd.int .i64) _ _ _ a1 [.int .i64 a1] from rfl) (Reps.none _ _))); intro v700 w14 ho15 hb hg_ hnew_; clear hg_ hnew_; (first | rw [← Ny699.out] at ho15 | (simp only [Int.reduceToNat] at ho15; rw [← Ny699.out] at ho15)); have n0_ := a_ (Kd.R_lower ho15 (below_size bl_)); have n1_ := a_ (bb_ BK698.out hb); have n2_ := a_ (below_step bl_ hb); clear BK698; clear HB; have HO701 := n0_; have BK698 := n1_; have HB := n2_; clear n0_ n1_ n2_; clear hb ho15; obtain ⟨Ao16, co16, eo16⟩ := Kd.R_slice HO701.out; subst eo16) | ((with_reducible refine gate_callee (f := 78) rfl ?_); refine goesL_ (some 10) rfl rfl Tryd.func78 (by kernel_rfl) rfl #[.slice A0 l0.length c0, .slice Ao16 y699.length co16] rfl tm_ ?_; (with_reducible refine (waterhourref04_first.calls k _ _ l0 _ _ y699 t702 _ ?side1 ?side2 ?side3 ?side4 A3.out).mono ?_); (case side1 => exact cl_ (Kd.C_below HR0.out HB.out)); (case side2 => exact HC0.out); (case side3 => exact cl_ ((Kd.R_reads' HO701.out).2.2)); (case side4 => exact (Kd.R_reads' HO701.out).2.1); rintro e w17 ⟨rfl, hb⟩; refine ⟨_, rfl, ?_⟩; have n0_ := a_ (Kd.R_below (rl_ HO701.out) hb); have n1_ := a_ (bb_ BK698.out hb); have n2_ := a_ (below_step bl_ hb); clear HO701; clear BK698; clear HB; have HO701 := n0_; have BK698 := n1_; have HB := n2_; clear n0_ n1_ n2_; (try clear hb); (try clear hb2); (try clear hk); (try clear hi); have hcz18_0 : w17.cell? ⟨gb698, 0, none⟩ = some (.int .i64 0) := (blk_cell BK698.out 0).trans rfl; have hcz18_1 : w17.cell? ⟨gb698, 1, none⟩ = some (.int .i64 0) := (blk_cell BK698.out 1).trans rfl; have hfz18_0 := blk_frozen BK698.out 0; have hfz18_1 := blk_frozen BK698.out 1))
  refine bodyPost_ret (results_ct rfl _ _ gb698 49 #[.int .i64 0, .int .i64 0] (0, 0) _ rfl (by (with_reducible repeat (first | refine blk_drewN ?_ _ | refine blk_drew ?_ | refine blk_alloc ?_ _)); refine blk_put (cs := #[.int .i64 0, .int .i64 0]) ?_ 1 _ rfl; (with_reducible repeat (first | refine blk_drewN ?_ _ | refine blk_drew ?_ | refine blk_alloc ?_ _)); refine blk_put (cs := #[.int .i64 0, .int .i64 0]) ?_ 0 _ rfl; (with_reducible repeat (first | refine blk_drewN ?_ _ | refine blk_drew ?_ | refine blk_alloc ?_ _)); exact BK698.out) Tryd.underlying49 rfl (by kernel_rfl)) rfl ?_
  exact ⟨by first | rfl | (simp [errW_none, errW_some] <;> rfl) | (simp [*, errW_none, errW_some] <;> rfl), bl_⟩

end Go.Proofs.YtgiihjcpgjpkcaaDoor.Q
