/- Contracts of functions of the given program: each Go function as a plain Lean function (name.f) and the proof that its call answers just so, for every reading of its arguments. Written by the session's program wip/xprint.py out of the translation. -/
import Derived.Test.YtgiihjcpgjpkcaaDoorQ0
import Derived.Test.YtgiihjcpgjpkcaaDoorQC
import Derived.Test.YtgiihjcpgjpkcaaDoorQD
import Derived.Test.YtgiihjcpgjpkcaaDoorQDb
import Derived.Test.YtgiihjcpgjpkcaaDoorQDc
namespace Go.Proofs.YtgiihjcpgjpkcaaDoor.Q
open Go.RowKit Go.Proofs.YtgiihjcpgjpkcaaDoorW.PrintWords Go.Proofs.YtgiihjcpgjpkcaaDoorW.PrintLast Go.Proofs.YtgiihjcpgjpkcaaDoorW.PrintMore
attribute [local go_sem] max2_int min2_int max_two min_two max_three min_three max_four min_four   -- for this text's walks alone
set_option linter.unusedVariables false
set_option linter.unusedSimpArgs false

/-! ### waterhourref04_Attain: function 21 -/
def waterhourref04_Attain.j0 : Nat → List (S51) → Int → Int → Bool → Option (List Int × Bool × Int)
 | 0, _, _, _, _ => none
 | k + 1, x0, x1, x2, x41 => if x41 = true then (some (([] : List Int), false, 0)) else ((waterhourref04_copied.f x0).bind fun t332 => (if 0 ≤ x1 then (if x1 < (t332.length : Int) then ((waterhourref04_Earliest.f k (t332.set (x1 : Int).toNat (⟨(⟨(rd_T51 t332 x1).f0.f0, (rd_T51 t332 x1).f0.f1⟩ : S49), (⟨x2, x2⟩ : S49)⟩ : S51))).bind fun bt336 => (some (bt336.1, true, 0))) else (none)) else (none)))
def waterhourref04_Attain.f (k : Nat) (l0 : List (S51)) (a1 : Int) (a2 : Int) : Option (List Int × Bool × Int) := (waterhourref04_Possible.f k l0).bind fun bt326 => (if bt326.2 = 0 then ((waterhourref04_Event.f l0 a1 0).bind fun t328 => (if t328 = true then (if bt326.1 = true then ((waterhourref04_time.f k l0 a1).bind fun bt329 => (if a2 < bt329.1 then (waterhourref04_Attain.j0 k l0 a1 a2 true) else (waterhourref04_Attain.j0 k l0 a1 a2 (decide (a2 > bt329.2))))) else (some (([] : List Int), false, 0))) else (some (([] : List Int), false, 1)))) else (some (([] : List Int), false, bt326.2)))
theorem waterhourref04_Attain.mono_l : ∀ k, (∀ y0 y1 y2 y3, LeO (waterhourref04_Attain.j0 k y0 y1 y2 y3) (waterhourref04_Attain.j0 (k + 1) y0 y1 y2 y3))
 | 0 => fun _ _ _ _ r h => by simp [waterhourref04_Attain.j0] at h
 | k + 1 => by
  have ih0 := waterhourref04_Attain.mono_l k
  ·intro y0 y1 y2 y3
   unfold waterhourref04_Attain.j0
   repeat' first
   | (with_reducible exact ih0 _ _ _ _)
   | (with_reducible exact waterhourref04_Earliest.mono _ _)
   | (with_reducible exact waterhourref04_Possible.mono _ _)
   | (with_reducible exact waterhourref04_time.mono _ _ _)
   | (with_reducible exact LeO.refl _)
   | (with_reducible exact LeO.none _)
   | (with_reducible refine LeO.ite ?_ ?_)
   | (with_reducible refine LeO.bind ?_ (fun _ => ?_))
   | exact ih0 _ _ _ _
   | exact waterhourref04_Earliest.mono _ _
   | exact waterhourref04_Possible.mono _ _
   | exact waterhourref04_time.mono _ _ _
   | exact LeO.none _
   | refine LeO.ite ?_ ?_
   | refine LeO.bind ?_ (fun _ => ?_)
theorem waterhourref04_Attain.mono : ∀ a0 a1 a2 k, LeO (waterhourref04_Attain.f k a0 a1 a2) (waterhourref04_Attain.f (k + 1) a0 a1 a2) := by
 intro a0 a1 a2 k
 have ih0 := waterhourref04_Attain.mono_l k
 unfold waterhourref04_Attain.f
 repeat' first
   | (with_reducible exact ih0 _ _ _ _)
   | (with_reducible exact waterhourref04_Earliest.mono _ _)
   | (with_reducible exact waterhourref04_Possible.mono _ _)
   | (with_reducible exact waterhourref04_time.mono _ _ _)
   | (with_reducible exact LeO.refl _)
   | (with_reducible exact LeO.none _)
   | (with_reducible refine LeO.ite ?_ ?_)
   | (with_reducible refine LeO.bind ?_ (fun _ => ?_))
   | exact ih0 _ _ _ _
   | exact waterhourref04_Earliest.mono _ _
   | exact waterhourref04_Possible.mono _ _
   | exact waterhourref04_time.mono _ _ _
   | exact LeO.none _
   | refine LeO.ite ?_ ?_
   | refine LeO.bind ?_ (fun _ => ?_)
set_option maxHeartbeats 8000000 in
set_option maxRecDepth 100000 in
theorem waterhourref04_Attain.calls (k : Nat) (A0 : Option Addr) (c0 : Nat) (l0 : List (S51)) (a1 : Int) (a2 : Int) (r1 : List Int) (r2 : Bool) (r3 : Int) (w : World) (hr0 : Kd.C k51 w A0 l0.length l0) (hc0 : l0.length ≤ c0) (h : waterhourref04_Attain.f k l0 a1 a2 = some (r1, r2, r3)) :
  Calls Tryd.prog 21 #[.slice A0 l0.length c0, .int .i64 a1, .int .i64 a2] w fun e w' => ∃ v0_ : Value, e = .returned (.tuple #[v0_, .bool r2, .int .i64 r3]) ∧ Kd.R (Kd.int .i64) 3 w' w.heap.size (fun _ => True) v0_ r1 ∧ Below w.heap.size w w' := by
 have hu49 := Tryd.underlying49
 have HR0 := a_ hr0
 have HC0 := a_ hc0
 clear hr0 hc0
 have HB := a_ (Below.refl w.heap.size w)
 have H : ((waterhourref04_Possible.f k l0).bind fun bt326 => (if bt326.2 = 0 then ((waterhourref04_Event.f l0 a1 0).bind fun t328 => (if t328 = true then (if bt326.1 = true then ((waterhourref04_time.f k l0 a1).bind fun bt329 => (if a2 < bt329.1 then (waterhourref04_Attain.j0 k l0 a1 a2 true) else (waterhourref04_Attain.j0 k l0 a1 a2 (decide (a2 > bt329.2))))) else (some (([] : List Int), false, 0))) else (some (([] : List Int), false, 1)))) else (some (([] : List Int), false, bt326.2)))) = some (r1, r2, r3) := h
 clear h
 replace H := Option.bind_eq_some_iff.mp H
 obtain ⟨⟨t326, t327⟩, A40, H⟩ := H
 replace H : (if t327 = 0 then ((waterhourref04_Event.f l0 a1 0).bind fun t328 => (if t328 = true then (if t326 = true then ((waterhourref04_time.f k l0 a1).bind fun bt329 => (if a2 < bt329.1 then (waterhourref04_Attain.j0 k l0 a1 a2 true) else (waterhourref04_Attain.j0 k l0 a1 a2 (decide (a2 > bt329.2))))) else (some (([] : List Int), false, 0))) else (some (([] : List Int), false, 1)))) else (some (([] : List Int), false, t327))) = some (r1, r2, r3) := H
 have A4 := a_ A40
 clear A40
 by_cases c5 : t327 = 0
 ·rw [if_pos c5] at H
  have c5b0 : (t327 == 0) = true := beq_iff_eq.mpr c5
  have c5b1 : (t327 != 0) = false := bne_eq_false_iff_eq.mpr c5
  clear c5
  replace H := Option.bind_eq_some_iff.mp H
  obtain ⟨t328, A60, H⟩ := H
  replace H : (if t328 = true then (if t326 = true then ((waterhourref04_time.f k l0 a1).bind fun bt329 => (if a2 < bt329.1 then (waterhourref04_Attain.j0 k l0 a1 a2 true) else (waterhourref04_Attain.j0 k l0 a1 a2 (decide (a2 > bt329.2))))) else (some (([] : List Int), false, 0))) else (some (([] : List Int), false, 1))) = some (r1, r2, r3) := H
  have A6 := a_ A60
  clear A60
  by_cases c7 : t328 = true
  ·subst c7
   have H1 : (if t326 = true then ((waterhourref04_time.f k l0 a1).bind fun bt329 => (if a2 < bt329.1 then (waterhourref04_Attain.j0 k l0 a1 a2 true) else (waterhourref04_Attain.j0 k l0 a1 a2 (decide (a2 > bt329.2))))) else (some (([] : List Int), false, 0))) = some (r1, r2, r3) := by rw [if_pos rfl] at H; exact H
   clear H
   have H := H1
   clear H1
   by_cases c8 : t326 = true
   ·subst c8
    have H1 : ((waterhourref04_time.f k l0 a1).bind fun bt329 => (if a2 < bt329.1 then (waterhourref04_Attain.j0 k l0 a1 a2 true) else (waterhourref04_Attain.j0 k l0 a1 a2 (decide (a2 > bt329.2))))) = some (r1, r2, r3) := by rw [if_pos rfl] at H; exact H
    clear H
    have H := H1
    clear H1
    replace H := Option.bind_eq_some_iff.mp H
    obtain ⟨⟨t329, t330⟩, A90, H⟩ := H
    replace H : (if a2 < t329 then (waterhourref04_Attain.j0 k l0 a1 a2 true) else (waterhourref04_Attain.j0 k l0 a1 a2 (decide (a2 > t330)))) = some (r1, r2, r3) := H
    have A9 := a_ A90
    clear A90
    have HC10 := a_ H
    clear H
    go_enter Tryd.func21, Tryd.ntmps21
    go_upto_region 9 with (first | ((with_reducible refine gate_callee (f := 50) rfl ?_); refine goesL_ (some 17) rfl rfl Tryd.func50 (by kernel_rfl) rfl #[.slice A0 l0.length c0] rfl tm_ ?_; (with_reducible refine (waterhourref04_Possible.calls k _ _ l0 true t327 _ ?side1 ?side2 A4.out).mono ?_); (case side1 => exact cl_ HR0.out); (case side2 => exact HC0.out); rintro e w11 ⟨rfl, hb⟩; refine ⟨_, rfl, ?_⟩; have n0_ := a_ (below_step bl_ hb); clear HB; have HB := n0_; clear n0_; (try clear hb); (try clear hb2); (try clear hk); (try clear hi)) | ((with_reducible refine gate_callee (f := 36) rfl ?_); refine goesL_ (some 25) rfl rfl Tryd.func36 (by kernel_rfl) rfl #[.slice A0 l0.length c0, .int .i64 a1, .int .i64 0] rfl tm_ ?_; (with_reducible refine (waterhourref04_Event.calls _ _ l0 a1 0 true _ ?side1 ?side2 A6.out).mono ?_); (case side1 => exact cl_ (Kd.C_below HR0.out HB.out)); (case side2 => exact HC0.out); rintro e w' ⟨rfl, ⟨nd, rfl⟩⟩; refine ⟨_, rfl, ?_⟩; (try (rw [drewN_self w11]; generalize hq_ : World.drewN w11 _ = w11; have n0_ : Aside0 (Below w.heap.size w w11) := ⟨by rw [← hq_]; exact bl_⟩; clear HB hq_; have HB := n0_; clear n0_))) | ((with_reducible refine gate_callee (f := 66) rfl ?_); refine goesL_ (some 31) rfl rfl Tryd.func66 (by kernel_rfl) rfl #[.slice A0 l0.length c0, .int .i64 a1] rfl tm_ ?_; (with_reducible refine (waterhourref04_time.calls k _ _ l0 a1 t329 t330 _ ?side1 ?side2 A9.out).mono ?_); (case side1 => exact cl_ (Kd.C_below HR0.out HB.out)); (case side2 => exact HC0.out); rintro e w12 ⟨rfl, hb⟩; refine ⟨_, rfl, ?_⟩; have n0_ := a_ (below_step bl_ hb); clear HB; have HB := n0_; clear n0_; (try clear hb); (try clear hb2); (try clear hk); (try clear hi)) | ((with_reducible refine gate_dst (N := 11) rfl ?_); refine box_event ?hg (N := 11) ?hd (cs := #[.int .i64 0, .int .i64 0]) (t := 49) ?hr ?_; (case hd => rfl); (case hg => rfl); (case hr => first | (go_simp; done) | (go_simp; rfl)); intro gb331 hg w13 hbox hb; have n0_ := a_ (below_step bl_ hb); have n1_ := a_ (hbox); have n2_ := a_ ((bz_ (w := w) hg)); have n3_ := a_ ((bz_ (w := w) hg)); clear HB; have HB := n0_; have BK331 := n1_; have GW331 := n2_; have GE331 := n3_; clear n0_ n1_ n2_ n3_; clear hb hbox hg; have hcz14_0 : w13.cell? ⟨gb331, 0, none⟩ = some (.int .i64 0) := (blk_cell BK331.out 0).trans rfl; have hcz14_1 : w13.cell? ⟨gb331, 1, none⟩ = some (.int .i64 0) := (blk_cell BK331.out 1).trans rfl; have hfz14_0 := blk_frozen BK331.out 0; have hfz14_1 := blk_frozen BK331.out 1))
    (try simp only [Act.put, List.setIfInBounds_toArray, List.set_cons_zero, List.set_cons_succ])
    go_cut [41] (fun v41 wc => ∃ (kq : Nat) (x41_9 : Bool), v41 = .bool x41_9 ∧ Aside0 (waterhourref04_Attain.j0 kq l0 a1 a2 x41_9 = some (r1, r2, r3)) ∧ Aside0 (kq ≤ k) ∧ Aside0 (wc.heap[gb331]? = some (.cells #[.int .i64 t329, .int .i64 t330] 49 (0, 0))) ∧ Aside0 (Below w.heap.size w wc))
    case first =>
     have H := HC10.out
     clear HC10
     by_cases c15 : a2 < t329
     ·rw [if_pos c15] at H
      have c15b0 : decide (a2 < t329) = true := decide_eq_true c15
      clear c15
      (first | rw [c15b0] | (simp only [i64_w, i32_w]; rw [c15b0]) | skip)
      have H' := a_ H
      clear H
      have hcz16_0 : w13.cell? ⟨gb331, 0, none⟩ = some (.int .i64 0) := (blk_cell BK331.out 0).trans rfl
      have hcz16_1 : w13.cell? ⟨gb331, 1, none⟩ = some (.int .i64 0) := (blk_cell BK331.out 1).trans rfl
      have hfz16_0 := blk_frozen BK331.out 0
      have hfz16_1 := blk_frozen BK331.out 1
      go_wp2
      go_meet
      case rel => exact ⟨_, (true), (by first | rfl | (simp; done) | (simp [*]; done)), H', ⟨by first | omega | exact Nat.le_refl _⟩, ⟨by (with_reducible repeat (first | refine blk_drewN ?_ _ | refine blk_drew ?_ | refine blk_alloc ?_ _)); refine blk_put (cs := #[.int .i64 t329, .int .i64 0]) ?_ 1 _ rfl; (with_reducible repeat (first | refine blk_drewN ?_ _ | refine blk_drew ?_ | refine blk_alloc ?_ _)); refine blk_put (cs := #[.int .i64 0, .int .i64 0]) ?_ 0 _ rfl; (with_reducible repeat (first | refine blk_drewN ?_ _ | refine blk_drew ?_ | refine blk_alloc ?_ _)); exact BK331.out⟩, ⟨bl_⟩⟩
     ·rw [if_neg c15] at H
      have c15b0 : decide (a2 < t329) = false := decide_eq_false c15
      clear c15
      (first | rw [c15b0] | (simp only [i64_w, i32_w]; rw [c15b0]) | skip)
      have H' := a_ H
      clear H
      have hcz17_0 : w13.cell? ⟨gb331, 0, none⟩ = some (.int .i64 0) := (blk_cell BK331.out 0).trans rfl
      have hcz17_1 : w13.cell? ⟨gb331, 1, none⟩ = some (.int .i64 0) := (blk_cell BK331.out 1).trans rfl
      have hfz17_0 := blk_frozen BK331.out 0
      have hfz17_1 := blk_frozen BK331.out 1
      go_wp2
      go_meet
      case rel => exact ⟨_, (decide (a2 > t330)), (by first | rfl | (simp; done) | (simp [*]; done)), H', ⟨by first | omega | exact Nat.le_refl _⟩, ⟨by (with_reducible repeat (first | refine blk_drewN ?_ _ | refine blk_drew ?_ | refine blk_alloc ?_ _)); refine blk_put (cs := #[.int .i64 t329, .int .i64 0]) ?_ 1 _ rfl; (with_reducible repeat (first | refine blk_drewN ?_ _ | refine blk_drew ?_ | refine blk_alloc ?_ _)); refine blk_put (cs := #[.int .i64 0, .int .i64 0]) ?_ 0 _ rfl; (with_reducible repeat (first | refine blk_drewN ?_ _ | refine blk_drew ?_ | refine blk_alloc ?_ _)); exact BK331.out⟩, ⟨bl_⟩⟩
    case rest =>
     clear HC10
     try clear c1
     try clear c2
     try clear p2
     try clear c3
     try clear c5
     try clear c5b0
     try clear c5b1
     try clear c6
     try clear c7
     try clear c8
     try clear c15
     try clear c15b0
     try clear hcz14_0
     try clear hcz14_1
     try clear hcz16_0
     try clear hcz16_1
     try clear hcz17_0
     try clear hcz17_1
     try clear hfz14_0
     try clear hfz14_1
     try clear hfz16_0
     try clear hfz16_1
     try clear hfz17_0
     try clear hfz17_1
     obtain ⟨kq, x41_9, rfl, HA, HJ9, BK331, HB⟩ := hcut
     cases kq with
     | zero => exact absurd HA.out (by simp [waterhourref04_Attain.j0])
     | succ kj9 =>
      have H := HA.out
      clear HA
      simp only [waterhourref04_Attain.j0] at H
      by_cases c18 : x41_9 = true
      ·subst c18
       have H1 : (some (([] : List Int), false, 0)) = some (r1, r2, r3) := by rw [if_pos rfl] at H; exact H
       clear H
       have H := H1
       clear H1
       simp only [Option.some.injEq, Prod.mk.injEq] at H
       obtain ⟨rfl, rfl, rfl⟩ := H
       go_wp2
       go_ret3
       exact ⟨_, by first | rfl | (simp [errW_none, errW_some] <;> rfl) | (simp [*, errW_none, errW_some] <;> rfl), by first | exact Kd.R_nil _ _ _ _ _ | exact Kd.N_nil _ _ _ _ _ | exact Kd.V_nil _ _ _ _ _ | exact Kd.Q_nil _ _ _ _ _ | exact Kd.S_nil _ _ _ _ _, bl_⟩
      ·replace c18 := Bool.eq_false_iff.mpr c18
       subst c18
       have H1 : ((waterhourref04_copied.f l0).bind fun t332 => (if 0 ≤ a1 then (if a1 < (t332.length : Int) then ((waterhourref04_Earliest.f kj9 (t332.set (a1 : Int).toNat (⟨(⟨(rd_T51 t332 a1).f0.f0, (rd_T51 t332 a1).f0.f1⟩ : S49), (⟨a2, a2⟩ : S49)⟩ : S51))).bind fun bt336 => (some (bt336.1, true, 0))) else (none)) else (none))) = some (r1, r2, r3) := by rw [if_neg (show ¬ (false = true) by decide)] at H; exact H
       clear H
       have H := H1
       clear H1
       replace H := Option.bind_eq_some_iff.mp H
       obtain ⟨t332, A190, H⟩ := H
       replace H : (if 0 ≤ a1 then (if a1 < (t332.length : Int) then ((waterhourref04_Earliest.f kj9 (t332.set (a1 : Int).toNat (⟨(⟨(rd_T51 t332 a1).f0.f0, (rd_T51 t332 a1).f0.f1⟩ : S49), (⟨a2, a2⟩ : S49)⟩ : S51))).bind fun bt336 => (some (bt336.1, true, 0))) else (none)) else (none)) = some (r1, r2, r3) := H
       have A19 := a_ A190
       clear A190
       by_cases c20 : 0 ≤ a1
       ·rw [if_pos c20] at H
        have c20b0 : decide (0 ≤ a1) = true := decide_eq_true c20
        clear c20
        by_cases c21 : a1 < (t332.length : Int)
        ·rw [if_pos c21] at H
         have c21b0 : decide (a1 < (t332.length : Int)) = true := decide_eq_true c21
         clear c21
         obtain ⟨y335, hy335⟩ : ∃ y_ : List (S51), y_ = (t332.set (a1 : Int).toNat (⟨(⟨(rd_T51 t332 a1).f0.f0, (rd_T51 t332 a1).f0.f1⟩ : S49), (⟨a2, a2⟩ : S49)⟩ : S51)) := ⟨_, rfl⟩
         replace H : ((waterhourref04_Earliest.f kj9 y335).bind fun bt336 => (some (bt336.1, true, 0))) = some (r1, r2, r3) := by first | (rw [hy335]; with_reducible exact H) | (have H2_ := (Option.bind_some _ _).symm.trans H; rw [hy335]; with_reducible exact H2_) | (have H2_ := (Option.bind_some _ _).symm.trans H; with_reducible exact H2_) | with_reducible exact H | (rw [hy335]; exact H) | exact H
         have Ny335 := a_ hy335
         clear hy335
         replace H := Option.bind_eq_some_iff.mp H
         obtain ⟨⟨t336, t337⟩, A230, H⟩ := H
         replace H : (some (t336, true, 0)) = some (r1, r2, r3) := H
         have A23 := a_ A230
         clear A230
         simp only [Option.some.injEq, Prod.mk.injEq] at H
         obtain ⟨rfl, rfl, rfl⟩ := H
         go_wp2_with (first | ((with_reducible refine gate_callee (f := 67) rfl ?_); refine goesL_ (some 43) rfl rfl Tryd.func67 (by kernel_rfl) rfl #[.slice A0 l0.length c0] rfl tm_ ?_; (with_reducible refine (waterhourref04_copied.calls _ _ l0 t332 _ ?side1 ?side2 A19.out).mono ?_); (case side1 => exact cl_ (Kd.C_below HR0.out HB.out)); (case side2 => exact HC0.out); rintro e w24 ⟨v333, rfl, ho0, hb⟩; refine ⟨_, rfl, ?_⟩; have n0_ := a_ (Kd.R_lower ho0 (below_size bl_)); have n1_ := a_ (bb_ BK331.out hb); have n2_ := a_ (below_step bl_ hb); clear BK331; clear HB; have HO334 := n0_; have BK331 := n1_; have HB := n2_; clear n0_ n1_ n2_; (try clear hb); (try clear hb2); (try clear hk); (try clear hi); (try clear ho0); have p22 : 0 ≤ (a1 : Int) := of_decide_eq_true (by first | (with_reducible assumption) | assumption); have q22 : (a1 : Int) < ((t332.length : Int) : Int) := of_decide_eq_true (by first | (with_reducible assumption) | assumption); obtain ⟨go22, co22, eo22, gb22, gl22, cl22, HG22⟩ := Kd.R_form HO334.out (by omega); (first | cases eo22 | (injection eo22 with ea_ en_ ec_; (first | subst ea_ | (injection ea_ with ea_; subst ea_)); subst ec_; clear en_)); have GB22 := a_ gb22; have GG22 := a_ HG22; clear gb22 gl22 HG22; obtain ⟨ce22, hcl22, hM22, hcc22, hfr22⟩ := Kd.R_elem HO334.out z51 (a1 : Int) p22 q22; obtain rfl := k51_openM hM22; have hx22_0 : w24.cell? ⟨go22, (a1 : Int).toNat * 4, none⟩ = some (.int .i64 ((rd_T51 t332 a1).f0.f0)) := hcc22 0 _ rfl; have hx22_1 : w24.cell? ⟨go22, (a1 : Int).toNat * 4 + 1, none⟩ = some (.int .i64 ((rd_T51 t332 a1).f0.f1)) := hcc22 1 _ rfl; have hx22_2 : w24.cell? ⟨go22, (a1 : Int).toNat * 4 + 2, none⟩ = some (.int .i64 ((rd_T51 t332 a1).f1.f0)) := hcc22 2 _ rfl; have hx22_3 : w24.cell? ⟨go22, (a1 : Int).toNat * 4 + 3, none⟩ = some (.int .i64 ((rd_T51 t332 a1).f1.f1)) := hcc22 3 _ rfl; have hf22_0 : w24.frozen? ⟨go22, (a1 : Int).toNat * 4, none⟩ = false := hfr22 0; have hf22_1 : w24.frozen? ⟨go22, (a1 : Int).toNat * 4 + 1, none⟩ = false := hfr22 1; have hf22_2 : w24.frozen? ⟨go22, (a1 : Int).toNat * 4 + 2, none⟩ = false := hfr22 2; have hf22_3 : w24.frozen? ⟨go22, (a1 : Int).toNat * 4 + 3, none⟩ = false := hfr22 3; clear hcl22 hcc22 hfr22 hM22; replace p22 := eq_true p22; replace q22 := eq_true q22; have HX25 := a_ (show Kd.R k51 51 w24 w.heap.size (fun _ => True) (.slice (some ⟨go22, 0, none⟩) t332.length co22) t332 from (rl_ HO334.out)); obtain ⟨ce25, hcl25, hM25, hcc25, hfr25⟩ := Kd.R_elem HX25.out z51 (a1 : Int) (of_decide_eq_true (by first | (with_reducible assumption) | assumption)) (by have h_ : (a1 : Int) < ((t332.length : Int) : Int) := of_decide_eq_true (by first | (with_reducible assumption) | assumption); first | exact h_ | (have e_ := (Kd.R_reads' HO334.out).1; omega) | simpa using h_); obtain rfl := k51_openM hM25; have HP25 := Kd.R_seg HX25.out (a1 : Int) (of_decide_eq_true (by first | (with_reducible assumption) | assumption)) (by have h_ : (a1 : Int) < ((t332.length : Int) : Int) := of_decide_eq_true (by first | (with_reducible assumption) | assumption); first | exact h_ | (have e_ := (Kd.R_reads' HO334.out).1; omega) | simpa using h_) (seg := [.int .i64 a2, .int .i64 a2]) (j := 2) hcl25 hcc25 (show 4 ≤ 4 from by decide) (x' := (⟨(⟨(rd_T51 t332 a1).f0.f0, (rd_T51 t332 a1).f0.f1⟩ : S49), (⟨a2, a2⟩ : S49)⟩ : S51)) (k51_mkM _ _ _ (⟨(⟨(rd_T51 t332 a1).f0.f0, (rd_T51 t332 a1).f0.f1⟩ : S49), (⟨a2, a2⟩ : S49)⟩ : S51) ) (fun _ hk => hk); have hx25_2 := hcc25 2 _ rfl; (try simp only [show (k51).sz = 4 from rfl, Nat.mul_one, Nat.add_zero] at hx25_2); have hf25_2 := hfr25 2; (try simp only [show (k51).sz = 4 from rfl, Nat.mul_one, Nat.add_zero] at hf25_2); have hx25_3 := hcc25 3 _ rfl; (try simp only [show (k51).sz = 4 from rfl, Nat.mul_one, Nat.add_zero] at hx25_3); have hf25_3 := hfr25 3; (try simp only [show (k51).sz = 4 from rfl, Nat.mul_one, Nat.add_zero] at hf25_3); clear hcl25 hcc25 hfr25 hM25) | ((with_reducible refine gate_store (t := 49) (p := 50) rfl ?_); refine store_event (t := 49) (p := 50) (v := ?vo_w26) (w1 := ((w24.setCell ⟨go22, (a1 : Int).toNat * 4 + 2, none⟩ (.int .i64 a2)).setCell ⟨go22, (a1 : Int).toNat * 4 + 3, none⟩ (.int .i64 a2))) ?hg ?ho ?hn ?hr ?_; (case ho => rfl); (case hg => rfl); (case hn => rfl); (case hr => first | (go_simp; done) | (go_simp; rfl)); intro w26 hw; have hg : w24.grownBy w26 (some go22) := (by rw [hw]; exact HP25.2); have hp_ : Kd.R k51 51 w26 w.heap.size (fun _ => True) (.slice (some ⟨go22, 0, none⟩) t332.length co22) y335 := (by rw [hw, Ny335.out]; exact HP25.1); clear HP25; have n0_ := a_ (blk_grown (g := gb331) (o := .cells #[.int .i64 t329, .int .i64 t330] 49 (0, 0)) (by (with_reducible repeat (first | refine blk_drewN ?_ _ | refine blk_drew ?_ | refine blk_alloc ?_ _)); exact BK331.out) hg (Kd.R_ne HO334.out BK331.out (by decide))); have n1_ := a_ (hp_); have n2_ := a_ ((by rw [hw]; exact below_set (below_set (HB.out) GB22.out) GB22.out : Below w.heap.size w w26)); clear BK331; clear HO334; clear HB; have BK331 := n0_; have HO334 := n1_; have HB := n2_; clear n0_ n1_ n2_; clear hg hw hp_) | ((with_reducible refine gate_callee (f := 51) rfl ?_); refine goesL_ (some 53) rfl rfl Tryd.func51 (by kernel_rfl) rfl #[.slice (some ⟨go22, 0, none⟩) y335.length co22] rfl (by (try simp only [List.map_toArray, List.map_cons, List.map_nil]); first | done | (rw [show y335.length = t332.length from (Kd.R_reads' HO334.out).1.symm] <;> rfl) | rfl | (simp only [List.length_drop, List.length_take]; rfl)) ?_; (with_reducible refine (waterhourref04_Earliest.calls kj9 _ _ y335 t336 t337 _ ?side1 ?side2 A23.out).mono ?_); (case side1 => exact cl_ ((Kd.R_reads' HO334.out).2.2)); (case side2 => rw [show y335.length = t332.length from (Kd.R_reads' HO334.out).1.symm]; exact (Kd.R_reads' HO334.out).2.1); rintro e w27 ⟨v338, rfl, ho0, hb⟩; refine ⟨_, rfl, ?_⟩; have n0_ := a_ (Kd.R_below (rl_ HO334.out) hb); have n1_ := a_ (Kd.R_lower ho0 (below_size bl_)); have n2_ := a_ (bb_ BK331.out hb); have n3_ := a_ (below_step bl_ hb); clear HO334; clear BK331; clear HB; have HO334 := n0_; have HO339 := n1_; have BK331 := n2_; have HB := n3_; clear n0_ n1_ n2_ n3_; (try clear hb); (try clear hb2); (try clear hk); (try clear hi); (try clear ho0)))
         go_ret3
         exact ⟨_, by first | rfl | (simp [errW_none, errW_some] <;> rfl) | (simp [*, errW_none, errW_some] <;> rfl), by (with_reducible repeat (first | apply Kd.R_alloc | apply Kd.R_drewN | apply Kd.R_drew)); exact HO339.out, bl_⟩
        ·rw [if_neg c21] at H
         exact absurd H (by simp)
       ·rw [if_neg c20] at H
        exact absurd H (by simp)
   ·replace c8 := Bool.eq_false_iff.mpr c8
    subst c8
    have H1 : (some (([] : List Int), false, 0)) = some (r1, r2, r3) := by rw [if_neg (show ¬ (false = true) by decide)] at H; exact H
    clear H
    have H := H1
    clear H1
    simp only [Option.some.injEq, Prod.mk.injEq] at H
    obtain ⟨rfl, rfl, rfl⟩ := H
    go_enter Tryd.func21, Tryd.ntmps21
    go_wp2_with (first | ((with_reducible refine gate_callee (f := 50) rfl ?_); refine goesL_ (some 17) rfl rfl Tryd.func50 (by kernel_rfl) rfl #[.slice A0 l0.length c0] rfl tm_ ?_; (with_reducible refine (waterhourref04_Possible.calls k _ _ l0 false t327 _ ?side1 ?side2 A4.out).mono ?_); (case side1 => exact cl_ HR0.out); (case side2 => exact HC0.out); rintro e w28 ⟨rfl, hb⟩; refine ⟨_, rfl, ?_⟩; have n0_ := a_ (below_step bl_ hb); clear HB; have HB := n0_; clear n0_; (try clear hb); (try clear hb2); (try clear hk); (try clear hi)) | ((with_reducible refine gate_callee (f := 36) rfl ?_); refine goesL_ (some 25) rfl rfl Tryd.func36 (by kernel_rfl) rfl #[.slice A0 l0.length c0, .int .i64 a1, .int .i64 0] rfl tm_ ?_; (with_reducible refine (waterhourref04_Event.calls _ _ l0 a1 0 true _ ?side1 ?side2 A6.out).mono ?_); (case side1 => exact cl_ (Kd.C_below HR0.out HB.out)); (case side2 => exact HC0.out); rintro e w' ⟨rfl, ⟨nd, rfl⟩⟩; refine ⟨_, rfl, ?_⟩))
    go_ret3
    exact ⟨_, by first | rfl | (simp [errW_none, errW_some] <;> rfl) | (simp [*, errW_none, errW_some] <;> rfl), by first | exact Kd.R_nil _ _ _ _ _ | exact Kd.N_nil _ _ _ _ _ | exact Kd.V_nil _ _ _ _ _ | exact Kd.Q_nil _ _ _ _ _ | exact Kd.S_nil _ _ _ _ _, bl_⟩
  ·replace c7 := Bool.eq_false_iff.mpr c7
   subst c7
   have H1 : (some (([] : List Int), false, 1)) = some (r1, r2, r3) := by rw [if_neg (show ¬ (false = true) by decide)] at H; exact H
   clear H
   have H := H1
   clear H1
   simp only [Option.some.injEq, Prod.mk.injEq] at H
   obtain ⟨rfl, rfl, rfl⟩ := H
   go_enter Tryd.func21, Tryd.ntmps21
   go_wp2_with (first | ((with_reducible refine gate_callee (f := 50) rfl ?_); refine goesL_ (some 17) rfl rfl Tryd.func50 (by kernel_rfl) rfl #[.slice A0 l0.length c0] rfl tm_ ?_; (with_reducible refine (waterhourref04_Possible.calls k _ _ l0 t326 t327 _ ?side1 ?side2 A4.out).mono ?_); (case side1 => exact cl_ HR0.out); (case side2 => exact HC0.out); rintro e w29 ⟨rfl, hb⟩; refine ⟨_, rfl, ?_⟩; have n0_ := a_ (below_step bl_ hb); clear HB; have HB := n0_; clear n0_; (try clear hb); (try clear hb2); (try clear hk); (try clear hi)) | ((with_reducible refine gate_callee (f := 36) rfl ?_); refine goesL_ (some 25) rfl rfl Tryd.func36 (by kernel_rfl) rfl #[.slice A0 l0.length c0, .int .i64 a1, .int .i64 0] rfl tm_ ?_; (with_reducible refine (waterhourref04_Event.calls _ _ l0 a1 0 false _ ?side1 ?side2 A6.out).mono ?_); (case side1 => exact cl_ (Kd.C_below HR0.out HB.out)); (case side2 => exact HC0.out); rintro e w' ⟨rfl, ⟨nd, rfl⟩⟩; refine ⟨_, rfl, ?_⟩))
   go_ret3
   exact ⟨_, by first | rfl | (simp [errW_none, errW_some] <;> rfl) | (simp [*, errW_none, errW_some] <;> rfl), by first | exact Kd.R_nil _ _ _ _ _ | exact Kd.N_nil _ _ _ _ _ | exact Kd.V_nil _ _ _ _ _ | exact Kd.Q_nil _ _ _ _ _ | exact Kd.S_nil _ _ _ _ _, bl_⟩
 ·rw [if_neg c5] at H
  have c5b0 : (t327 == 0) = false := beq_eq_false_iff_ne.mpr c5
  have c5b1 : (t327 != 0) = true := bne_iff_ne.mpr c5
  simp only [Option.some.injEq, Prod.mk.injEq] at H
  obtain ⟨rfl, rfl, rfl⟩ := H
  go_enter Tryd.func21, Tryd.ntmps21
  go_wp2_with (first | ((with_reducible refine gate_callee (f := 50) rfl ?_); refine goesL_ (some 17) rfl rfl Tryd.func50 (by kernel_rfl) rfl #[.slice A0 l0.length c0] rfl tm_ ?_; (with_reducible refine (waterhourref04_Possible.calls k _ _ l0 t326 t327 _ ?side1 ?side2 A4.out).mono ?_); (case side1 => exact cl_ HR0.out); (case side2 => exact HC0.out); rintro e w30 ⟨rfl, hb⟩; refine ⟨_, rfl, ?_⟩; have n0_ := a_ (below_step bl_ hb); clear HB; have HB := n0_; clear n0_; (try clear hb); (try clear hb2); (try clear hk); (try clear hi)))
  go_ret3
  exact ⟨_, by first | rfl | (simp [errW_none, errW_some] <;> rfl) | (simp [*, errW_none, errW_some] <;> rfl), by first | exact Kd.R_nil _ _ _ _ _ | exact Kd.N_nil _ _ _ _ _ | exact Kd.V_nil _ _ _ _ _ | exact Kd.Q_nil _ _ _ _ _ | exact Kd.S_nil _ _ _ _ _, bl_⟩

end Go.Proofs.YtgiihjcpgjpkcaaDoor.Q
