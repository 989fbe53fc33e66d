/- Contracts of functions that RefillDays reaches: each Go function as a plain Lean function and the proof that its call answers just so. -/
import Derived.Test.YtgiihjcpgjpkcaaDoorKQ0
import Derived.Test.YtgiihjcpgjpkcaaDoorKQC
import Derived.Test.YtgiihjcpgjpkcaaDoorKQCb
import Derived.Test.YtgiihjcpgjpkcaaDoorKQD
import Derived.Test.YtgiihjcpgjpkcaaDoorKQDb
namespace Go.Proofs.YtgiihjcpgjpkcaaDoor.Q
open Go.RowKit Go.Proofs.YtgiihjcpgjpkcaaDoorW.PrintWords Go.Proofs.YtgiihjcpgjpkcaaDoorW.PrintLast Go.Proofs.YtgiihjcpgjpkcaaDoorW.PrintMore
attribute [local go_sem] max2_int min2_int max_two min_two max_three min_three max_four min_four   -- for this text's walks alone
set_option linter.unusedVariables false
set_option linter.unusedSimpArgs false
def waterhourref04_Between.j0 : Nat → List (S51) → Int → Int → Bool → Bool → Option (Int × Int × Int)
 | 0, _, _, _, _, _ => none
 | k + 1, x0, x1, x2, x8, x36 => if x36 = true then (some (0, 0, 1)) else (if x8 = true then ((waterhourref04_way.f k x0 x1 x2).bind fun bt710 => (if x1 ≥ 0 then ((waterhourref04_time.f k x0 x1).bind fun bt714 => ((waterhourref04_time.f k x0 x2).bind fun bt716 => (some (mx bt710.1 (wrap64 (bt716.1 - bt714.2)), mn bt710.2 (wrap64 (bt716.2 - bt714.1)), 0)))) else ((waterhourref04_time.f k x0 x2).bind fun bt719 => (some (mx bt710.1 (wrap64 (bt719.1)), mn bt710.2 (wrap64 (bt719.2)), 0))))) else (some (0, 0, 31)))
def waterhourref04_Between.f (k : Nat) (l0 : List (S51)) (a1 : Int) (a2 : Int) : Option (Int × Int × Int) := (waterhourref04_Possible.f k l0).bind fun bt706 => (if bt706.2 = 0 then ((waterhourref04_Event.f l0 a1 (-1)).bind fun t708 => (if t708 = true then ((waterhourref04_Event.f l0 a2 0).bind fun t709 => (if t709 = true then (waterhourref04_Between.j0 k l0 a1 a2 bt706.1 (decide (a1 ≥ a2))) else (waterhourref04_Between.j0 k l0 a1 a2 bt706.1 true))) else (waterhourref04_Between.j0 k l0 a1 a2 bt706.1 true))) else (some (0, 0, bt706.2)))
theorem waterhourref04_Between.mono_l : ∀ k, (∀ y0 y1 y2 y3 y4, LeO (waterhourref04_Between.j0 k y0 y1 y2 y3 y4) (waterhourref04_Between.j0 (k + 1) y0 y1 y2 y3 y4))
 | 0 => fun _ _ _ _ _ r h => by simp [waterhourref04_Between.j0] at h
 | k + 1 => by
  have ih0 := waterhourref04_Between.mono_l k
  ·intro y0 y1 y2 y3 y4
   unfold waterhourref04_Between.j0
   repeat' first
   | (with_reducible exact ih0 _ _ _ _ _)
   | (with_reducible exact waterhourref04_Possible.mono _ _)
   | (with_reducible exact waterhourref04_time.mono _ _ _)
   | (with_reducible exact waterhourref04_way.mono _ _ _ _)
   | (with_reducible exact LeO.refl _)
   | (with_reducible exact LeO.none _)
   | (with_reducible refine LeO.ite ?_ ?_)
   | (with_reducible refine LeO.bind ?_ (fun _ => ?_))
   | exact ih0 _ _ _ _ _
   | exact waterhourref04_Possible.mono _ _
   | exact waterhourref04_time.mono _ _ _
   | exact waterhourref04_way.mono _ _ _ _
   | exact LeO.none _
   | refine LeO.ite ?_ ?_
   | refine LeO.bind ?_ (fun _ => ?_)
theorem waterhourref04_Between.mono : ∀ a0 a1 a2 k, LeO (waterhourref04_Between.f k a0 a1 a2) (waterhourref04_Between.f (k + 1) a0 a1 a2) := by
 intro a0 a1 a2 k
 have ih0 := waterhourref04_Between.mono_l k
 unfold waterhourref04_Between.f
 repeat' first
   | (with_reducible exact ih0 _ _ _ _ _)
   | (with_reducible exact waterhourref04_Possible.mono _ _)
   | (with_reducible exact waterhourref04_time.mono _ _ _)
   | (with_reducible exact waterhourref04_way.mono _ _ _ _)
   | (with_reducible exact LeO.refl _)
   | (with_reducible exact LeO.none _)
   | (with_reducible refine LeO.ite ?_ ?_)
   | (with_reducible refine LeO.bind ?_ (fun _ => ?_))
   | exact ih0 _ _ _ _ _
   | exact waterhourref04_Possible.mono _ _
   | exact waterhourref04_time.mono _ _ _
   | exact waterhourref04_way.mono _ _ _ _
   | exact LeO.none _
   | refine LeO.ite ?_ ?_
   | refine LeO.bind ?_ (fun _ => ?_)
set_option maxHeartbeats 8000000 in
set_option maxRecDepth 100000 in
theorem waterhourref04_Between.calls (k : Nat) (A0 : Option Addr) (c0 : Nat) (l0 : List (S51)) (a1 : Int) (a2 : Int) (r1 : Int) (r2 : Int) (r3 : Int) (w : World) (hr0 : Kd.C k51 w A0 l0.length l0) (hc0 : l0.length ≤ c0) (h : waterhourref04_Between.f k l0 a1 a2 = some (r1, r2, r3)) :
  Calls Tryd.prog 54 #[.slice A0 l0.length c0, .int .i64 a1, .int .i64 a2] w fun e w' => e = .returned (.tuple #[.agg #[.int .i64 r1, .int .i64 r2], .int .i64 r3]) ∧ Below w.heap.size w w' := by
 have hu49 := Tryd.underlying49
 have HR0 := a_ hr0
 have HC0 := a_ hc0
 clear hr0 hc0
 have HB := a_ (Below.refl w.heap.size w)
 have H : ((waterhourref04_Possible.f k l0).bind fun bt706 => (if bt706.2 = 0 then ((waterhourref04_Event.f l0 a1 (-1)).bind fun t708 => (if t708 = true then ((waterhourref04_Event.f l0 a2 0).bind fun t709 => (if t709 = true then (waterhourref04_Between.j0 k l0 a1 a2 bt706.1 (decide (a1 ≥ a2))) else (waterhourref04_Between.j0 k l0 a1 a2 bt706.1 true))) else (waterhourref04_Between.j0 k l0 a1 a2 bt706.1 true))) else (some (0, 0, bt706.2)))) = some (r1, r2, r3) := h
 clear h
 replace H := Option.bind_eq_some_iff.mp H
 obtain ⟨⟨t706, t707⟩, A40, H⟩ := H
 replace H : (if t707 = 0 then ((waterhourref04_Event.f l0 a1 (-1)).bind fun t708 => (if t708 = true then ((waterhourref04_Event.f l0 a2 0).bind fun t709 => (if t709 = true then (waterhourref04_Between.j0 k l0 a1 a2 t706 (decide (a1 ≥ a2))) else (waterhourref04_Between.j0 k l0 a1 a2 t706 true))) else (waterhourref04_Between.j0 k l0 a1 a2 t706 true))) else (some (0, 0, t707))) = some (r1, r2, r3) := H
 have A4 := a_ A40
 clear A40
 by_cases c5 : t707 = 0
 ·rw [if_pos c5] at H
  have c5b0 : (t707 == 0) = true := beq_iff_eq.mpr c5
  have c5b1 : (t707 != 0) = false := bne_eq_false_iff_eq.mpr c5
  clear c5
  have HC6 := a_ H
  clear H
  go_enter Tryd.func54, Tryd.ntmps54
  go_upto_region 4 with (first | ((with_reducible refine gate_dst (N := 6) rfl ?_); refine box_event ?hg (N := 6) ?hd (cs := #[.int .i64 0, .int .i64 0]) (t := 49) ?hr ?_; (case hd => rfl); (case hg => rfl); (case hr => first | (go_simp; done) | (go_simp; rfl)); intro gb705 hg w7 hbox hb; have n0_ := a_ (below_step bl_ hb); have n1_ := a_ (hbox); have n2_ := a_ ((bz_ (w := w) hg)); have n3_ := a_ ((bz_ (w := w) hg)); clear HB; have HB := n0_; have BK705 := n1_; have GW705 := n2_; have GE705 := n3_; clear n0_ n1_ n2_ n3_; clear hb hbox hg) | ((with_reducible refine gate_callee (f := 50) rfl ?_); refine goesL_ (some 15) rfl rfl Tryd.func50 (by kernel_rfl) rfl #[.slice A0 l0.length c0] rfl tm_ ?_; (with_reducible refine (waterhourref04_Possible.calls k _ _ l0 t706 t707 _ ?side1 ?side2 A4.out).mono ?_); (case side1 => exact cl_ (Kd.C_below HR0.out HB.out)); (case side2 => exact HC0.out); rintro e w8 ⟨rfl, hb⟩; refine ⟨_, rfl, ?_⟩; have n0_ := a_ (bb_ BK705.out hb); have n1_ := a_ (below_step bl_ hb); clear BK705; clear HB; have BK705 := n0_; have HB := n1_; clear n0_ n1_; (try clear hb); (try clear hb2); (try clear hk); (try clear hi)))
  (try simp only [Act.put, List.setIfInBounds_toArray, List.set_cons_zero, List.set_cons_succ])
  go_cut [36] (fun v36 wc => ∃ (kq : Nat) (x36_5 : Bool), v36 = .bool x36_5 ∧ Aside0 (waterhourref04_Between.j0 kq l0 a1 a2 t706 x36_5 = some (r1, r2, r3)) ∧ Aside0 (kq ≤ k) ∧ Aside0 (wc.heap[gb705]? = some (.cells #[.int .i64 0, .int .i64 0] 49 (0, 0))) ∧ Aside0 (Below w.heap.size w wc))
  case first =>
   have H := HC6.out
   clear HC6
   replace H := Option.bind_eq_some_iff.mp H
   obtain ⟨t708, A90, H⟩ := H
   replace H : (if t708 = true then ((waterhourref04_Event.f l0 a2 0).bind fun t709 => (if t709 = true then (waterhourref04_Between.j0 k l0 a1 a2 t706 (decide (a1 ≥ a2))) else (waterhourref04_Between.j0 k l0 a1 a2 t706 true))) else (waterhourref04_Between.j0 k l0 a1 a2 t706 true)) = some (r1, r2, r3) := H
   have A9 := a_ A90
   clear A90
   by_cases c10 : t708 = true
   ·subst c10
    have H1 : ((waterhourref04_Event.f l0 a2 0).bind fun t709 => (if t709 = true then (waterhourref04_Between.j0 k l0 a1 a2 t706 (decide (a1 ≥ a2))) else (waterhourref04_Between.j0 k l0 a1 a2 t706 true))) = some (r1, r2, r3) := by rw [if_pos rfl] at H; exact H
    clear H
    have H := H1
    clear H1
    replace H := Option.bind_eq_some_iff.mp H
    obtain ⟨t709, A110, H⟩ := H
    replace H : (if t709 = true then (waterhourref04_Between.j0 k l0 a1 a2 t706 (decide (a1 ≥ a2))) else (waterhourref04_Between.j0 k l0 a1 a2 t706 true)) = some (r1, r2, r3) := H
    have A11 := a_ A110
    clear A110
    by_cases c12 : t709 = true
    ·subst c12
     have H1 : (waterhourref04_Between.j0 k l0 a1 a2 t706 (decide (a1 ≥ a2))) = some (r1, r2, r3) := by rw [if_pos rfl] at H; exact H
     clear H
     have H := H1
     clear H1
     have H' := a_ H
     clear H
     go_wp2_with (first | ((with_reducible refine gate_callee (f := 36) rfl ?_); refine goesL_ (some 24) rfl rfl Tryd.func36 (by kernel_rfl) rfl #[.slice A0 l0.length c0, .int .i64 a1, .int .i64 (-1)] rfl tm_ ?_; (with_reducible refine (waterhourref04_Event.calls _ _ l0 a1 (-1) true _ ?side1 ?side2 A9.out).mono ?_); (case side1 => exact cl_ (Kd.C_below HR0.out HB.out)); (case side2 => exact HC0.out); rintro e w' ⟨rfl, ⟨nd, rfl⟩⟩; refine ⟨_, rfl, ?_⟩) | (go_at_call 36; (with_reducible refine (waterhourref04_Event.calls _ _ l0 a2 0 true _ ?side1 ?side2 A11.out).mono ?_); (case side1 => exact cl_ (Kd.C_below HR0.out bl_)); (case side2 => exact HC0.out); rintro e w' ⟨rfl, ⟨nd, rfl⟩⟩))
     go_meet
     case rel => exact ⟨_, (decide (a1 ≥ a2)), (by first | rfl | (simp; done) | (simp [*]; done)), H', ⟨by first | omega | exact Nat.le_refl _⟩, ⟨bk_ BK705.out⟩, ⟨bl_⟩⟩
    ·replace c12 := Bool.eq_false_iff.mpr c12
     subst c12
     have H1 : (waterhourref04_Between.j0 k l0 a1 a2 t706 true) = some (r1, r2, r3) := by rw [if_neg (show ¬ (false = true) by decide)] at H; exact H
     clear H
     have H := H1
     clear H1
     have H' := a_ H
     clear H
     go_wp2_with (first | ((with_reducible refine gate_callee (f := 36) rfl ?_); refine goesL_ (some 24) rfl rfl Tryd.func36 (by kernel_rfl) rfl #[.slice A0 l0.length c0, .int .i64 a1, .int .i64 (-1)] rfl tm_ ?_; (with_reducible refine (waterhourref04_Event.calls _ _ l0 a1 (-1) true _ ?side1 ?side2 A9.out).mono ?_); (case side1 => exact cl_ (Kd.C_below HR0.out HB.out)); (case side2 => exact HC0.out); rintro e w' ⟨rfl, ⟨nd, rfl⟩⟩; refine ⟨_, rfl, ?_⟩) | (go_at_call 36; (with_reducible refine (waterhourref04_Event.calls _ _ l0 a2 0 false _ ?side1 ?side2 A11.out).mono ?_); (case side1 => exact cl_ (Kd.C_below HR0.out bl_)); (case side2 => exact HC0.out); rintro e w' ⟨rfl, ⟨nd, rfl⟩⟩))
     go_meet
     case rel => exact ⟨_, (true), (by first | rfl | (simp; done) | (simp [*]; done)), H', ⟨by first | omega | exact Nat.le_refl _⟩, ⟨bk_ BK705.out⟩, ⟨bl_⟩⟩
   ·replace c10 := Bool.eq_false_iff.mpr c10
    subst c10
    have H1 : (waterhourref04_Between.j0 k l0 a1 a2 t706 true) = some (r1, r2, r3) := by rw [if_neg (show ¬ (false = true) by decide)] at H; exact H
    clear H
    have H := H1
    clear H1
    have H' := a_ H
    clear H
    go_wp2_with (first | ((with_reducible refine gate_callee (f := 36) rfl ?_); refine goesL_ (some 24) rfl rfl Tryd.func36 (by kernel_rfl) rfl #[.slice A0 l0.length c0, .int .i64 a1, .int .i64 (-1)] rfl tm_ ?_; (with_reducible refine (waterhourref04_Event.calls _ _ l0 a1 (-1) false _ ?side1 ?side2 A9.out).mono ?_); (case side1 => exact cl_ (Kd.C_below HR0.out HB.out)); (case side2 => exact HC0.out); rintro e w' ⟨rfl, ⟨nd, rfl⟩⟩; refine ⟨_, rfl, ?_⟩))
    go_meet
    case rel => exact ⟨_, (true), (by first | rfl | (simp; done) | (simp [*]; done)), H', ⟨by first | omega | exact Nat.le_refl _⟩, ⟨bk_ BK705.out⟩, ⟨bl_⟩⟩
  case rest =>
   clear HC6
   try clear c1
   try clear p2
   try clear c3
   try clear c5
   try clear c5b0
   try clear c5b1
   try clear c10
   try clear c12
   obtain ⟨kq, x36_5, rfl, HA, HJ5, BK705, HB⟩ := hcut
   cases kq with
   | zero => exact absurd HA.out (by simp [waterhourref04_Between.j0])
   | succ kj5 =>
    have H := HA.out
    clear HA
    simp only [waterhourref04_Between.j0] at H
    by_cases c13 : x36_5 = true
    ·subst c13
     have H1 : (some (0, 0, 1)) = some (r1, r2, r3) := by rw [if_pos rfl] at H; exact H
     clear H
     have H := H1
     clear H1
     simp only [Option.some.injEq, Prod.mk.injEq] at H
     obtain ⟨rfl, rfl, rfl⟩ := H
     have hcz14_0 : wc.cell? ⟨gb705, 0, none⟩ = some (.int .i64 0) := (blk_cell BK705.out 0).trans rfl
     have hcz14_1 : wc.cell? ⟨gb705, 1, none⟩ = some (.int .i64 0) := (blk_cell BK705.out 1).trans rfl
     have hfz14_0 := blk_frozen BK705.out 0
     have hfz14_1 := blk_frozen BK705.out 1
     go_wp2
     refine bodyPost_ret (results_ct rfl _ _ gb705 49 #[.int .i64 0, .int .i64 0] (0, 0) _ rfl (by (with_reducible repeat (first | refine blk_drewN ?_ _ | refine blk_drew ?_ | refine blk_alloc ?_ _)); refine blk_put (cs := #[.int .i64 0, .int .i64 0]) ?_ 1 _ rfl; (with_reducible repeat (first | refine blk_drewN ?_ _ | refine blk_drew ?_ | refine blk_alloc ?_ _)); refine blk_put (cs := #[.int .i64 0, .int .i64 0]) ?_ 0 _ rfl; (with_reducible repeat (first | refine blk_drewN ?_ _ | refine blk_drew ?_ | refine blk_alloc ?_ _)); exact BK705.out) Tryd.underlying49 rfl (by kernel_rfl)) rfl ?_
     exact ⟨by first | rfl | (simp [errW_none, errW_some] <;> rfl) | (simp [*, errW_none, errW_some] <;> rfl), bl_⟩
    ·replace c13 := Bool.eq_false_iff.mpr c13
     subst c13
     have H1 : (if t706 = true then ((waterhourref04_way.f kj5 l0 a1 a2).bind fun bt710 => (if a1 ≥ 0 then ((waterhourref04_time.f kj5 l0 a1).bind fun bt714 => ((waterhourref04_time.f kj5 l0 a2).bind fun bt716 => (some (mx bt710.1 (wrap64 (bt716.1 - bt714.2)), mn bt710.2 (wrap64 (bt716.2 - bt714.1)), 0)))) else ((waterhourref04_time.f kj5 l0 a2).bind fun bt719 => (some (mx bt710.1 (wrap64 (bt719.1)), mn bt710.2 (wrap64 (bt719.2)), 0))))) else (some (0, 0, 31))) = some (r1, r2, r3) := by rw [if_neg (show ¬ (false = true) by decide)] at H; exact H
     clear H
     have H := H1
     clear H1
     by_cases c15 : t706 = true
     ·subst c15
      have H1 : ((waterhourref04_way.f kj5 l0 a1 a2).bind fun bt710 => (if a1 ≥ 0 then ((waterhourref04_time.f kj5 l0 a1).bind fun bt714 => ((waterhourref04_time.f kj5 l0 a2).bind fun bt716 => (some (mx bt710.1 (wrap64 (bt716.1 - bt714.2)), mn bt710.2 (wrap64 (bt716.2 - bt714.1)), 0)))) else ((waterhourref04_time.f kj5 l0 a2).bind fun bt719 => (some (mx bt710.1 (wrap64 (bt719.1)), mn bt710.2 (wrap64 (bt719.2)), 0))))) = some (r1, r2, r3) := by rw [if_pos rfl] at H; exact H
      clear H
      have H := H1
      clear H1
      replace H := Option.bind_eq_some_iff.mp H
      obtain ⟨⟨t710, t711⟩, A160, H⟩ := H
      replace H : (if a1 ≥ 0 then ((waterhourref04_time.f kj5 l0 a1).bind fun bt714 => ((waterhourref04_time.f kj5 l0 a2).bind fun bt716 => (some (mx t710 (wrap64 (bt716.1 - bt714.2)), mn t711 (wrap64 (bt716.2 - bt714.1)), 0)))) else ((waterhourref04_time.f kj5 l0 a2).bind fun bt719 => (some (mx t710 (wrap64 (bt719.1)), mn t711 (wrap64 (bt719.2)), 0)))) = some (r1, r2, r3) := H
      have A16 := a_ A160
      clear A160
      by_cases c17 : a1 ≥ 0
      ·rw [if_pos c17] at H
       have c17b0 : decide (0 ≤ a1) = true := decide_eq_true c17
       clear c17
       replace H := Option.bind_eq_some_iff.mp H
       obtain ⟨⟨t714, t715⟩, A180, H⟩ := H
       replace H : ((waterhourref04_time.f kj5 l0 a2).bind fun bt716 => (some (mx t710 (wrap64 (bt716.1 - t715)), mn t711 (wrap64 (bt716.2 - t714)), 0))) = some (r1, r2, r3) := H
       have A18 := a_ A180
       clear A180
       replace H := Option.bind_eq_some_iff.mp H
       obtain ⟨⟨t716, t717⟩, A190, H⟩ := H
       replace H : (some (mx t710 (wrap64 (t716 - t715)), mn t711 (wrap64 (t717 - t714)), 0)) = some (r1, r2, r3) := H
       have A19 := a_ A190
       clear A190
       obtain ⟨ji20, hji20⟩ : ∃ j_ : Int, (mx t710 (wrap64 (t716 - t715))) = j_ := ⟨_, rfl⟩
       replace H : (some (ji20, mn t711 (wrap64 (t717 - t714)), 0)) = some (r1, r2, r3) := by first | (rw [hji20] at H; exact H) | (simp only [hji20] at H ⊢; exact H)
       (try rw [hji20] at A16)
       (try rw [hji20] at A18)
       (try rw [hji20] at A19)
       have hji20_ : (if t710 < (wrap64 (t716 - t715)) then (wrap64 (t716 - t715)) else t710) = ji20 := hji20
       obtain ⟨ji21, hji21⟩ : ∃ j_ : Int, (mn t711 (wrap64 (t717 - t714))) = j_ := ⟨_, rfl⟩
       replace H : (some (ji20, ji21, 0)) = some (r1, r2, r3) := by first | (rw [hji21] at H; exact H) | (simp only [hji21] at H ⊢; exact H)
       (try rw [hji21] at A16)
       (try rw [hji21] at A18)
       (try rw [hji21] at A19)
       have hji21_ : (if (wrap64 (t717 - t714)) < t711 then (wrap64 (t717 - t714)) else t711) = ji21 := hji21
       simp only [Option.some.injEq, Prod.mk.injEq] at H
       obtain ⟨rfl, rfl, rfl⟩ := H
       go_wp2_with (first | ((with_reducible refine gate_callee (f := 90) rfl ?_); refine goesL_ (some 44) rfl rfl Tryd.func90 (by kernel_rfl) rfl #[.slice A0 l0.length c0, .int .i64 a1, .int .i64 a2] rfl tm_ ?_; (with_reducible refine (waterhourref04_way.calls kj5 _ _ l0 a1 a2 t710 t711 _ ?side1 ?side2 A16.out).mono ?_); (case side1 => exact cl_ (Kd.C_below HR0.out HB.out)); (case side2 => exact HC0.out); rintro e w22 ⟨rfl, hb⟩; refine ⟨_, rfl, ?_⟩; have n0_ := a_ (bb_ BK705.out hb); have n1_ := a_ (below_step bl_ hb); clear BK705; clear HB; have BK705 := n0_; have HB := n1_; clear n0_ n1_; (try clear hb); (try clear hb2); (try clear hk); (try clear hi)) | ((with_reducible refine gate_dst (N := 10) rfl ?_); refine box_event ?hg (N := 10) ?hd (cs := #[.int .i64 0, .int .i64 0]) (t := 49) ?hr ?_; (case hd => rfl); (case hg => rfl); (case hr => first | (go_simp; done) | (go_simp; rfl)); intro gb712 hg w23 hbox hb; have n0_ := a_ (bb_ BK705.out hb); have n1_ := a_ (below_step bl_ hb); have n2_ := a_ (hbox); have n3_ := a_ ((bz_ (w := w) hg)); have n4_ := a_ ((bz_ (w := w) hg)); have n5_ := a_ ((nl_ BK705.out hg)); have n6_ := a_ ((ng_ BK705.out hg)); clear BK705; clear HB; have BK705 := n0_; have HB := n1_; have BK712 := n2_; have GW712 := n3_; have GE712 := n4_; have NB705_712 := n5_; have NB712_705 := n6_; clear n0_ n1_ n2_ n3_ n4_ n5_ n6_; clear hb hbox hg; have hnb24 := NB712_705.out; have hnc24 := NB705_712.out; have hcz25_0 : w23.cell? ⟨gb712, 0, none⟩ = some (.int .i64 0) := (blk_cell BK712.out 0).trans rfl; have hcz25_1 : w23.cell? ⟨gb712, 1, none⟩ = some (.int .i64 0) := (blk_cell BK712.out 1).trans rfl; have hfz25_0 := blk_frozen BK712.out 0; have hfz25_1 := blk_frozen BK712.out 1) | ((with_reducible refine gate_dst (N := 11) rfl ?_); refine box_event ?hg (N := 11) ?hd (cs := #[.int .i64 0, .int .i64 0]) (t := 49) ?hr ?_; (case hd => rfl); (case hg => rfl); (case hr => first | (go_simp; done) | (go_simp; rfl)); intro gb713 hg w26 hbox hb; have n0_ := a_ (blk_below (g := gb705) (o := .cells #[.int .i64 0, .int .i64 0] 49 (0, 0)) (by (with_reducible repeat (first | refine blk_drewN ?_ _ | refine blk_drew ?_ | refine blk_alloc ?_ _)); refine blk_far ?_ NB705_712.out _; (with_reducible repeat (first | refine blk_drewN ?_ _ | refine blk_drew ?_ | refine blk_alloc ?_ _)); refine blk_far ?_ NB705_712.out _; (with_reducible repeat (first | refine blk_drewN ?_ _ | refine blk_drew ?_ | refine blk_alloc ?_ _)); exact BK705.out) hb); have n1_ := a_ (blk_below (g := gb712) (o := .cells #[.int .i64 t710, .int .i64 t711] 49 (0, 0)) (by (with_reducible repeat (first | refine blk_drewN ?_ _ | refine blk_drew ?_ | refine blk_alloc ?_ _)); refine blk_put (cs := #[.int .i64 t710, .int .i64 0]) ?_ 1 _ rfl; (with_reducible repeat (first | refine blk_drewN ?_ _ | refine blk_drew ?_ | refine blk_alloc ?_ _)); refine blk_put (cs := #[.int .i64 0, .int .i64 0]) ?_ 0 _ rfl; (with_reducible repeat (first | refine blk_drewN ?_ _ | refine blk_drew ?_ | refine blk_alloc ?_ _)); exact BK712.out) hb); have n2_ := a_ (below_step bl_ hb); have n3_ := a_ (hbox); have n4_ := a_ ((bz_ (w := w) hg)); have n5_ := a_ ((bz_ (w := w) hg)); have n6_ := a_ ((by rw [hg]; exact Nat.ne_of_lt (blk_lt (g := gb705) (o := .cells #[.int .i64 0, .int .i64 0] 49 (0, 0)) (by (with_reducible repeat (first | refine blk_drewN ?_ _ | refine blk_drew ?_ | refine blk_alloc ?_ _)); refine blk_far ?_ NB705_712.out _; (with_reducible repeat (first | refine blk_drewN ?_ _ | refine blk_drew ?_ | refine blk_alloc ?_ _)); refine blk_far ?_ NB705_712.out _; (with_reducible repeat (first | refine blk_drewN ?_ _ | refine blk_drew ?_ | refine blk_alloc ?_ _)); exact BK705.out)) : gb705 ≠ gb713)); have n7_ := a_ ((by rw [hg]; exact Nat.ne_of_gt (blk_lt (g := gb705) (o := .cells #[.int .i64 0, .int .i64 0] 49 (0, 0)) (by (with_reducible repeat (first | refine blk_drewN ?_ _ | refine blk_drew ?_ | refine blk_alloc ?_ _)); refine blk_far ?_ NB705_712.out _; (with_reducible repeat (first | refine blk_drewN ?_ _ | refine blk_drew ?_ | refine blk_alloc ?_ _)); refine blk_far ?_ NB705_712.out _; (with_reducible repeat (first | refine blk_drewN ?_ _ | refine blk_drew ?_ | refine blk_alloc ?_ _)); exact BK705.out)) : gb713 ≠ gb705)); have n8_ := a_ ((by rw [hg]; exact Nat.ne_of_lt (blk_lt (g := gb712) (o := .cells #[.int .i64 t710, .int .i64 t711] 49 (0, 0)) (by (with_reducible repeat (first | refine blk_drewN ?_ _ | refine blk_drew ?_ | refine blk_alloc ?_ _)); refine blk_put (cs := #[.int .i64 t710, .int .i64 0]) ?_ 1 _ rfl; (with_reducible repeat (first | refine blk_drewN ?_ _ | refine blk_drew ?_ | refine blk_alloc ?_ _)); refine blk_put (cs := #[.int .i64 0, .int .i64 0]) ?_ 0 _ rfl; (with_reducible repeat (first | refine blk_drewN ?_ _ | refine blk_drew ?_ | refine blk_alloc ?_ _)); exact BK712.out)) : gb712 ≠ gb713)); have n9_ := a_ ((by rw [hg]; exact Nat.ne_of_gt (blk_lt (g := gb712) (o := .cells #[.int .i64 t710, .int .i64 t711] 49 (0, 0)) (by (with_reducible repeat (first | refine blk_drewN ?_ _ | refine blk_drew ?_ | refine blk_alloc ?_ _)); refine blk_put (cs := #[.int .i64 t710, .int .i64 0]) ?_ 1 _ rfl; (with_reducible repeat (first | refine blk_drewN ?_ _ | refine blk_drew ?_ | refine blk_alloc ?_ _)); refine blk_put (cs := #[.int .i64 0, .int .i64 0]) ?_ 0 _ rfl; (with_reducible repeat (first | refine blk_drewN ?_ _ | refine blk_drew ?_ | refine blk_alloc ?_ _)); exact BK712.out)) : gb713 ≠ gb712)); clear BK705; clear BK712; clear HB; have BK705 := n0_; have BK712 := n1_; have HB := n2_; have BK713 := n3_; have GW713 := n4_; have GE713 := n5_; have NB705_713 := n6_; have NB713_705 := n7_; have NB712_713 := n8_; have NB713_712 := n9_; clear n0_ n1_ n2_ n3_ n4_ n5_ n6_ n7_ n8_ n9_; clear hb hbox hg; have hnb27 := NB713_705.out; have hnc27 := NB705_713.out; have hnb28 := NB713_712.out; have hnc28 := NB712_713.out; have hcz29_0 : w26.cell? ⟨gb713, 0, none⟩ = some (.int .i64 0) := (blk_cell BK713.out 0).trans rfl; have hcz29_1 : w26.cell? ⟨gb713, 1, none⟩ = some (.int .i64 0) := (blk_cell BK713.out 1).trans rfl; have hfz29_0 := blk_frozen BK713.out 0; have hfz29_1 := blk_frozen BK713.out 1) | ((with_reducible refine gate_callee (f := 66) rfl ?_); refine goesL_ (some 50) rfl rfl Tryd.func66 (by kernel_rfl) rfl #[.slice A0 l0.length c0, .int .i64 a1] rfl tm_ ?_; (with_reducible refine (waterhourref04_time.calls kj5 _ _ l0 a1 t714 t715 _ ?side1 ?side2 A18.out).mono ?_); (case side1 => exact Kd.C_below HR0.out bl_); (case side2 => exact HC0.out); rintro e w30 ⟨rfl, hb⟩; refine ⟨_, rfl, ?_⟩; have n0_ := a_ (blk_below (g := gb705) (o := .cells #[.int .i64 0, .int .i64 0] 49 (0, 0)) (by (with_reducible repeat (first | refine blk_drewN ?_ _ | refine blk_drew ?_ | refine blk_alloc ?_ _)); refine blk_far ?_ NB705_713.out _; (with_reducible repeat (first | refine blk_drewN ?_ _ | refine blk_drew ?_ | refine blk_alloc ?_ _)); refine blk_far ?_ NB705_713.out _; (with_reducible repeat (first | refine blk_drewN ?_ _ | refine blk_drew ?_ | refine blk_alloc ?_ _)); exact BK705.out) hb); have n1_ := a_ (blk_below (g := gb712) (o := .cells #[.int .i64 t710, .int .i64 t711] 49 (0, 0)) (by (with_reducible repeat (first | refine blk_drewN ?_ _ | refine blk_drew ?_ | refine blk_alloc ?_ _)); refine blk_far ?_ NB712_713.out _; (with_reducible repeat (first | refine blk_drewN ?_ _ | refine blk_drew ?_ | refine blk_alloc ?_ _)); refine blk_far ?_ NB712_713.out _; (with_reducible repeat (first | refine blk_drewN ?_ _ | refine blk_drew ?_ | refine blk_alloc ?_ _)); exact BK712.out) hb); have n2_ := a_ (blk_below (g := gb713) (o := .cells #[.int .i64 0, .int .i64 0] 49 (0, 0)) (by (with_reducible repeat (first | refine blk_drewN ?_ _ | refine blk_drew ?_ | refine blk_alloc ?_ _)); refine blk_put (cs := #[.int .i64 0, .int .i64 0]) ?_ 1 _ rfl; (with_reducible repeat (first | refine blk_drewN ?_ _ | refine blk_drew ?_ | refine blk_alloc ?_ _)); refine blk_put (cs := #[.int .i64 0, .int .i64 0]) ?_ 0 _ rfl; (with_reducible repeat (first | refine blk_drewN ?_ _ | refine blk_drew ?_ | refine blk_alloc ?_ _)); exact BK713.out) hb); have n3_ := a_ (below_step bl_ hb); clear BK705; clear BK712; clear BK713; clear HB; have BK705 := n0_; have BK712 := n1_; have BK713 := n2_; have HB := n3_; clear n0_ n1_ n2_ n3_; (try clear hb); (try clear hb2); (try clear hk); (try clear hi); have hcz31_0 : w30.cell? ⟨gb713, 0, none⟩ = some (.int .i64 0) := (blk_cell BK713.out 0).trans rfl; have hcz31_1 : w30.cell? ⟨gb713, 1, none⟩ = some (.int .i64 0) := (blk_cell BK713.out 1).trans rfl; have hfz31_0 := blk_frozen BK713.out 0; have hfz31_1 := blk_frozen BK713.out 1) | ((with_reducible refine gate_callee (f := 66) rfl ?_); refine goesL_ (some 53) rfl rfl Tryd.func66 (by kernel_rfl) rfl #[.slice A0 l0.length c0, .int .i64 a2] rfl tm_ ?_; (with_reducible refine (waterhourref04_time.calls kj5 _ _ l0 a2 t716 t717 _ ?side1 ?side2 A19.out).mono ?_); (case side1 => exact Kd.C_below HR0.out bl_); (case side2 => exact HC0.out); rintro e w32 ⟨rfl, hb⟩; refine ⟨_, rfl, ?_⟩; have n0_ := a_ (blk_below (g := gb705) (o := .cells #[.int .i64 0, .int .i64 0] 49 (0, 0)) (by (with_reducible repeat (first | refine blk_drewN ?_ _ | refine blk_drew ?_ | refine blk_alloc ?_ _)); refine blk_far ?_ NB705_713.out _; (with_reducible repeat (first | refine blk_drewN ?_ _ | refine blk_drew ?_ | refine blk_alloc ?_ _)); refine blk_far ?_ NB705_713.out _; (with_reducible repeat (first | refine blk_drewN ?_ _ | refine blk_drew ?_ | refine blk_alloc ?_ _)); exact BK705.out) hb); have n1_ := a_ (blk_below (g := gb712) (o := .cells #[.int .i64 t710, .int .i64 t711] 49 (0, 0)) (by (with_reducible repeat (first | refine blk_drewN ?_ _ | refine blk_drew ?_ | refine blk_alloc ?_ _)); refine blk_far ?_ NB712_713.out _; (with_reducible repeat (first | refine blk_drewN ?_ _ | refine blk_drew ?_ | refine blk_alloc ?_ _)); refine blk_far ?_ NB712_713.out _; (with_reducible repeat (first | refine blk_drewN ?_ _ | refine blk_drew ?_ | refine blk_alloc ?_ _)); exact BK712.out) hb); have n2_ := a_ (blk_below (g := gb713) (o := .cells #[.int .i64 t714, .int .i64 t715] 49 (0, 0)) (by (with_reducible repeat (first | refine blk_drewN ?_ _ | refine blk_drew ?_ | refine blk_alloc ?_ _)); refine blk_put (cs := #[.int .i64 t714, .int .i64 0]) ?_ 1 _ rfl; (with_reducible repeat (first | refine blk_drewN ?_ _ | refine blk_drew ?_ | refine blk_alloc ?_ _)); refine blk_put (cs := #[.int .i64 0, .int .i64 0]) ?_ 0 _ rfl; (with_reducible repeat (first | refine blk_drewN ?_ _ | refine blk_drew ?_ | refine blk_alloc ?_ _)); exact BK713.out) hb); have n3_ := a_ (below_step bl_ hb); clear BK705; clear BK712; clear BK713; clear HB; have BK705 := n0_; have BK712 := n1_; have BK713 := n2_; have HB := n3_; clear n0_ n1_ n2_ n3_; (try clear hb); (try clear hb2); (try clear hk); (try clear hi)) | ((with_reducible refine gate_dst (N := 12) rfl ?_); refine box_event ?hg (N := 12) ?hd (cs := #[.int .i64 0, .int .i64 0]) (t := 49) ?hr ?_; (case hd => rfl); (case hg => rfl); (case hr => first | (go_simp; done) | (go_simp; rfl)); intro gb718 hg w33 hbox hb; have n0_ := a_ (bb_ BK705.out hb); have n1_ := a_ (bb_ BK712.out hb); have n2_ := a_ (bb_ BK713.out hb); have n3_ := a_ (below_step bl_ hb); have n4_ := a_ (hbox); have n5_ := a_ ((bz_ (w := w) hg)); have n6_ := a_ ((bz_ (w := w) hg)); have n7_ := a_ ((nl_ BK705.out hg)); have n8_ := a_ ((ng_ BK705.out hg)); have n9_ := a_ ((nl_ BK712.out hg)); have n10_ := a_ ((ng_ BK712.out hg)); have n11_ := a_ ((nl_ BK713.out hg)); have n12_ := a_ ((ng_ BK713.out hg)); clear BK705; clear BK712; clear BK713; clear HB; have BK705 := n0_; have BK712 := n1_; have BK713 := n2_; have HB := n3_; have BK718 := n4_; have GW718 := n5_; have GE718 := n6_; have NB705_718 := n7_; have NB718_705 := n8_; have NB712_718 := n9_; have NB718_712 := n10_; have NB713_718 := n11_; have NB718_713 := n12_; clear n0_ n1_ n2_ n3_ n4_ n5_ n6_ n7_ n8_ n9_ n10_ n11_ n12_; clear hb hbox hg; have hnb34 := NB718_705.out; have hnc34 := NB705_718.out; have hnb35 := NB718_712.out; have hnc35 := NB712_718.out; have hnb36 := NB718_713.out; have hnc36 := NB713_718.out; have hcz37_0 : w33.cell? ⟨gb718, 0, none⟩ = some (.int .i64 0) := (blk_cell BK718.out 0).trans rfl; have hcz37_1 : w33.cell? ⟨gb718, 1, none⟩ = some (.int .i64 0) := (blk_cell BK718.out 1).trans rfl; have hfz37_0 := blk_frozen BK718.out 0; have hfz37_1 := blk_frozen BK718.out 1; have hcz38_0 : w33.cell? ⟨gb712, 0, none⟩ = some (.int .i64 t710) := (blk_cell BK712.out 0).trans rfl; have hcz38_1 : w33.cell? ⟨gb712, 1, none⟩ = some (.int .i64 t711) := (blk_cell BK712.out 1).trans rfl; have hfz38_0 := blk_frozen BK712.out 0; have hfz38_1 := blk_frozen BK712.out 1; have hcz39_0 : w33.cell? ⟨gb713, 0, none⟩ = some (.int .i64 t714) := (blk_cell BK713.out 0).trans rfl; have hcz39_1 : w33.cell? ⟨gb713, 1, none⟩ = some (.int .i64 t715) := (blk_cell BK713.out 1).trans rfl; have hfz39_0 := blk_frozen BK713.out 0; have hfz39_1 := blk_frozen BK713.out 1; have hcz40_0 : w33.cell? ⟨gb705, 0, none⟩ = some (.int .i64 0) := (blk_cell BK705.out 0).trans rfl; have hcz40_1 : w33.cell? ⟨gb705, 1, none⟩ = some (.int .i64 0) := (blk_cell BK705.out 1).trans rfl; have hfz40_0 := blk_frozen BK705.out 0; have hfz40_1 := blk_frozen BK705.out 1))
       refine bodyPost_ret (results_ct rfl _ _ gb705 49 #[.int .i64 ji20, .int .i64 ji21] (0, 0) _ rfl (by (with_reducible repeat (first | refine blk_drewN ?_ _ | refine blk_drew ?_ | refine blk_alloc ?_ _)); refine blk_put (cs := #[.int .i64 ji20, .int .i64 0]) ?_ 1 _ rfl; (with_reducible repeat (first | refine blk_drewN ?_ _ | refine blk_drew ?_ | refine blk_alloc ?_ _)); refine blk_put (cs := #[.int .i64 0, .int .i64 0]) ?_ 0 _ rfl; (with_reducible repeat (first | refine blk_drewN ?_ _ | refine blk_drew ?_ | refine blk_alloc ?_ _)); refine blk_far ?_ NB705_718.out _; (with_reducible repeat (first | refine blk_drewN ?_ _ | refine blk_drew ?_ | refine blk_alloc ?_ _)); refine blk_far ?_ NB705_718.out _; (with_reducible repeat (first | refine blk_drewN ?_ _ | refine blk_drew ?_ | refine blk_alloc ?_ _)); exact BK705.out) Tryd.underlying49 rfl (by kernel_rfl)) rfl ?_
       exact ⟨by first | rfl | (simp [errW_none, errW_some] <;> rfl) | (simp only [← hji20, ← hji21]; first | rfl | (simp [errW_none, errW_some] <;> rfl)) | (simp [*, errW_none, errW_some] <;> rfl), bl_⟩
      ·rw [if_neg c17] at H
       have c17b0 : decide (0 ≤ a1) = false := decide_eq_false c17
       clear c17
       replace H := Option.bind_eq_some_iff.mp H
       obtain ⟨⟨t719, t720⟩, A410, H⟩ := H
       replace H : (some (mx t710 (wrap64 (t719)), mn t711 (wrap64 (t720)), 0)) = some (r1, r2, r3) := H
       have A41 := a_ A410
       clear A410
       obtain ⟨ji42, hji42⟩ : ∃ j_ : Int, (mx t710 (wrap64 (t719))) = j_ := ⟨_, rfl⟩
       replace H : (some (ji42, mn t711 (wrap64 (t720)), 0)) = some (r1, r2, r3) := by first | (rw [hji42] at H; exact H) | (simp only [hji42] at H ⊢; exact H)
       (try rw [hji42] at A16)
       (try rw [hji42] at A41)
       have hji42_ : (if t710 < (wrap64 (t719)) then (wrap64 (t719)) else t710) = ji42 := hji42
       obtain ⟨ji43, hji43⟩ : ∃ j_ : Int, (mn t711 (wrap64 (t720))) = j_ := ⟨_, rfl⟩
       replace H : (some (ji42, ji43, 0)) = some (r1, r2, r3) := by first | (rw [hji43] at H; exact H) | (simp only [hji43] at H ⊢; exact H)
       (try rw [hji43] at A16)
       (try rw [hji43] at A41)
       have hji43_ : (if (wrap64 (t720)) < t711 then (wrap64 (t720)) else t711) = ji43 := hji43
       simp only [Option.some.injEq, Prod.mk.injEq] at H
       obtain ⟨rfl, rfl, rfl⟩ := H
       go_wp2_with (first | ((with_reducible refine gate_callee (f := 90) rfl ?_); refine goesL_ (some 44) rfl rfl Tryd.func90 (by kernel_rfl) rfl #[.slice A0 l0.length c0, .int .i64 a1, .int .i64 a2] rfl tm_ ?_; (with_reducible refine (waterhourref04_way.calls kj5 _ _ l0 a1 a2 t710 t711 _ ?side1 ?side2 A16.out).mono ?_); (case side1 => exact cl_ (Kd.C_below HR0.out HB.out)); (case side2 => exact HC0.out); rintro e w44 ⟨rfl, hb⟩; refine ⟨_, rfl, ?_⟩; have n0_ := a_ (bb_ BK705.out hb); have n1_ := a_ (below_step bl_ hb); clear BK705; clear HB; have BK705 := n0_; have HB := n1_; clear n0_ n1_; (try clear hb); (try clear hb2); (try clear hk); (try clear hi)) | ((with_reducible refine gate_dst (N := 10) rfl ?_); refine box_event ?hg (N := 10) ?hd (cs := #[.int .i64 0, .int .i64 0]) (t := 49) ?hr ?_; (case hd => rfl); (case hg => rfl); (case hr => first | (go_simp; done) | (go_simp; rfl)); intro gb712 hg w45 hbox hb; have n0_ := a_ (bb_ BK705.out hb); have n1_ := a_ (below_step bl_ hb); have n2_ := a_ (hbox); have n3_ := a_ ((bz_ (w := w) hg)); have n4_ := a_ ((bz_ (w := w) hg)); have n5_ := a_ ((nl_ BK705.out hg)); have n6_ := a_ ((ng_ BK705.out hg)); clear BK705; clear HB; have BK705 := n0_; have HB := n1_; have BK712 := n2_; have GW712 := n3_; have GE712 := n4_; have NB705_712 := n5_; have NB712_705 := n6_; clear n0_ n1_ n2_ n3_ n4_ n5_ n6_; clear hb hbox hg; have hnb46 := NB712_705.out; have hnc46 := NB705_712.out; have hcz47_0 : w45.cell? ⟨gb712, 0, none⟩ = some (.int .i64 0) := (blk_cell BK712.out 0).trans rfl; have hcz47_1 : w45.cell? ⟨gb712, 1, none⟩ = some (.int .i64 0) := (blk_cell BK712.out 1).trans rfl; have hfz47_0 := blk_frozen BK712.out 0; have hfz47_1 := blk_frozen BK712.out 1) | ((with_reducible refine gate_dst (N := 11) rfl ?_); refine box_event ?hg (N := 11) ?hd (cs := #[.int .i64 0, .int .i64 0]) (t := 49) ?hr ?_; (case hd => rfl); (case hg => rfl); (case hr => first | (go_simp; done) | (go_simp; rfl)); intro gb713 hg w48 hbox hb; have n0_ := a_ (blk_below (g := gb705) (o := .cells #[.int .i64 0, .int .i64 0] 49 (0, 0)) (by (with_reducible repeat (first | refine blk_drewN ?_ _ | refine blk_drew ?_ | refine blk_alloc ?_ _)); refine blk_far ?_ NB705_712.out _; (with_reducible repeat (first | refine blk_drewN ?_ _ | refine blk_drew ?_ | refine blk_alloc ?_ _)); refine blk_far ?_ NB705_712.out _; (with_reducible repeat (first | refine blk_drewN ?_ _ | refine blk_drew ?_ | refine blk_alloc ?_ _)); exact BK705.out) hb); have n1_ := a_ (blk_below (g := gb712) (o := .cells #[.int .i64 t710, .int .i64 t711] 49 (0, 0)) (by (with_reducible repeat (first | refine blk_drewN ?_ _ | refine blk_drew ?_ | refine blk_alloc ?_ _)); refine blk_put (cs := #[.int .i64 t710, .int .i64 0]) ?_ 1 _ rfl; (with_reducible repeat (first | refine blk_drewN ?_ _ | refine blk_drew ?_ | refine blk_alloc ?_ _)); refine blk_put (cs := #[.int .i64 0, .int .i64 0]) ?_ 0 _ rfl; (with_reducible repeat (first | refine blk_drewN ?_ _ | refine blk_drew ?_ | refine blk_alloc ?_ _)); exact BK712.out) hb); have n2_ := a_ (below_step bl_ hb); have n3_ := a_ (hbox); have n4_ := a_ ((bz_ (w := w) hg)); have n5_ := a_ ((bz_ (w := w) hg)); have n6_ := a_ ((by rw [hg]; exact Nat.ne_of_lt (blk_lt (g := gb705) (o := .cells #[.int .i64 0, .int .i64 0] 49 (0, 0)) (by (with_reducible repeat (first | refine blk_drewN ?_ _ | refine blk_drew ?_ | refine blk_alloc ?_ _)); refine blk_far ?_ NB705_712.out _; (with_reducible repeat (first | refine blk_drewN ?_ _ | refine blk_drew ?_ | refine blk_alloc ?_ _)); refine blk_far ?_ NB705_712.out _; (with_reducible repeat (first | refine blk_drewN ?_ _ | refine blk_drew ?_ | refine blk_alloc ?_ _)); exact BK705.out)) : gb705 ≠ gb713)); have n7_ := a_ ((by rw [hg]; exact Nat.ne_of_gt (blk_lt (g := gb705) (o := .cells #[.int .i64 0, .int .i64 0] 49 (0, 0)) (by (with_reducible repeat (first | refine blk_drewN ?_ _ | refine blk_drew ?_ | refine blk_alloc ?_ _)); refine blk_far ?_ NB705_712.out _; (with_reducible repeat (first | refine blk_drewN ?_ _ | refine blk_drew ?_ | refine blk_alloc ?_ _)); refine blk_far ?_ NB705_712.out _; (with_reducible repeat (first | refine blk_drewN ?_ _ | refine blk_drew ?_ | refine blk_alloc ?_ _)); exact BK705.out)) : gb713 ≠ gb705)); have n8_ := a_ ((by rw [hg]; exact Nat.ne_of_lt (blk_lt (g := gb712) (o := .cells #[.int .i64 t710, .int .i64 t711] 49 (0, 0)) (by (with_reducible repeat (first | refine blk_drewN ?_ _ | refine blk_drew ?_ | refine blk_alloc ?_ _)); refine blk_put (cs := #[.int .i64 t710, .int .i64 0]) ?_ 1 _ rfl; (with_reducible repeat (first | refine blk_drewN ?_ _ | refine blk_drew ?_ | refine blk_alloc ?_ _)); refine blk_put (cs := #[.int .i64 0, .int .i64 0]) ?_ 0 _ rfl; (with_reducible repeat (first | refine blk_drewN ?_ _ | refine blk_drew ?_ | refine blk_alloc ?_ _)); exact BK712.out)) : gb712 ≠ gb713)); have n9_ := a_ ((by rw [hg]; exact Nat.ne_of_gt (blk_lt (g := gb712) (o := .cells #[.int .i64 t710, .int .i64 t711] 49 (0, 0)) (by (with_reducible repeat (first | refine blk_drewN ?_ _ | refine blk_drew ?_ | refine blk_alloc ?_ _)); refine blk_put (cs := #[.int .i64 t710, .int .i64 0]) ?_ 1 _ rfl; (with_reducible repeat (first | refine blk_drewN ?_ _ | refine blk_drew ?_ | refine blk_alloc ?_ _)); refine blk_put (cs := #[.int .i64 0, .int .i64 0]) ?_ 0 _ rfl; (with_reducible repeat (first | refine blk_drewN ?_ _ | refine blk_drew ?_ | refine blk_alloc ?_ _)); exact BK712.out)) : gb713 ≠ gb712)); clear BK705; clear BK712; clear HB; have BK705 := n0_; have BK712 := n1_; have HB := n2_; have BK713 := n3_; have GW713 := n4_; have GE713 := n5_; have NB705_713 := n6_; have NB713_705 := n7_; have NB712_713 := n8_; have NB713_712 := n9_; clear n0_ n1_ n2_ n3_ n4_ n5_ n6_ n7_ n8_ n9_; clear hb hbox hg; have hnb49 := NB713_705.out; have hnc49 := NB705_713.out; have hnb50 := NB713_712.out; have hnc50 := NB712_713.out; have hcz51_0 : w48.cell? ⟨gb713, 0, none⟩ = some (.int .i64 0) := (blk_cell BK713.out 0).trans rfl; have hcz51_1 : w48.cell? ⟨gb713, 1, none⟩ = some (.int .i64 0) := (blk_cell BK713.out 1).trans rfl; have hfz51_0 := blk_frozen BK713.out 0; have hfz51_1 := blk_frozen BK713.out 1) | ((with_reducible refine gate_callee (f := 66) rfl ?_); refine goesL_ (some 53) rfl rfl Tryd.func66 (by kernel_rfl) rfl #[.slice A0 l0.length c0, .int .i64 a2] rfl tm_ ?_; (with_reducible refine (waterhourref04_time.calls kj5 _ _ l0 a2 t719 t720 _ ?side1 ?side2 A41.out).mono ?_); (case side1 => exact Kd.C_below HR0.out bl_); (case side2 => exact HC0.out); rintro e w52 ⟨rfl, hb⟩; refine ⟨_, rfl, ?_⟩; have n0_ := a_ (blk_below (g := gb705) (o := .cells #[.int .i64 0, .int .i64 0] 49 (0, 0)) (by (with_reducible repeat (first | refine blk_drewN ?_ _ | refine blk_drew ?_ | refine blk_alloc ?_ _)); refine blk_far ?_ NB705_713.out _; (with_reducible repeat (first | refine blk_drewN ?_ _ | refine blk_drew ?_ | refine blk_alloc ?_ _)); refine blk_far ?_ NB705_713.out _; (with_reducible repeat (first | refine blk_drewN ?_ _ | refine blk_drew ?_ | refine blk_alloc ?_ _)); exact BK705.out) hb); have n1_ := a_ (blk_below (g := gb712) (o := .cells #[.int .i64 t710, .int .i64 t711] 49 (0, 0)) (by (with_reducible repeat (first | refine blk_drewN ?_ _ | refine blk_drew ?_ | refine blk_alloc ?_ _)); refine blk_far ?_ NB712_713.out _; (with_reducible repeat (first | refine blk_drewN ?_ _ | refine blk_drew ?_ | refine blk_alloc ?_ _)); refine blk_far ?_ NB712_713.out _; (with_reducible repeat (first | refine blk_drewN ?_ _ | refine blk_drew ?_ | refine blk_alloc ?_ _)); exact BK712.out) hb); have n2_ := a_ (blk_below (g := gb713) (o := .cells #[.int .i64 0, .int .i64 0] 49 (0, 0)) (by (with_reducible repeat (first | refine blk_drewN ?_ _ | refine blk_drew ?_ | refine blk_alloc ?_ _)); refine blk_put (cs := #[.int .i64 0, .int .i64 0]) ?_ 1 _ rfl; (with_reducible repeat (first | refine blk_drewN ?_ _ | refine blk_drew ?_ | refine blk_alloc ?_ _)); refine blk_put (cs := #[.int .i64 0, .int .i64 0]) ?_ 0 _ rfl; (with_reducible repeat (first | refine blk_drewN ?_ _ | refine blk_drew ?_ | refine blk_alloc ?_ _)); exact BK713.out) hb); have n3_ := a_ (below_step bl_ hb); clear BK705; clear BK712; clear BK713; clear HB; have BK705 := n0_; have BK712 := n1_; have BK713 := n2_; have HB := n3_; clear n0_ n1_ n2_ n3_; (try clear hb); (try clear hb2); (try clear hk); (try clear hi)) | ((with_reducible refine gate_dst (N := 12) rfl ?_); refine box_event ?hg (N := 12) ?hd (cs := #[.int .i64 0, .int .i64 0]) (t := 49) ?hr ?_; (case hd => rfl); (case hg => rfl); (case hr => first | (go_simp; done) | (go_simp; rfl)); intro gb721 hg w53 hbox hb; have n0_ := a_ (bb_ BK705.out hb); have n1_ := a_ (bb_ BK712.out hb); have n2_ := a_ (bb_ BK713.out hb); have n3_ := a_ (below_step bl_ hb); have n4_ := a_ (hbox); have n5_ := a_ ((bz_ (w := w) hg)); have n6_ := a_ ((bz_ (w := w) hg)); have n7_ := a_ ((nl_ BK705.out hg)); have n8_ := a_ ((ng_ BK705.out hg)); have n9_ := a_ ((nl_ BK712.out hg)); have n10_ := a_ ((ng_ BK712.out hg)); have n11_ := a_ ((nl_ BK713.out hg)); have n12_ := a_ ((ng_ BK713.out hg)); clear BK705; clear BK712; clear BK713; clear HB; have BK705 := n0_; have BK712 := n1_; have BK713 := n2_; have HB := n3_; have BK721 := n4_; have GW721 := n5_; have GE721 := n6_; have NB705_721 := n7_; have NB721_705 := n8_; have NB712_721 := n9_; have NB721_712 := n10_; have NB713_721 := n11_; have NB721_713 := n12_; clear n0_ n1_ n2_ n3_ n4_ n5_ n6_ n7_ n8_ n9_ n10_ n11_ n12_; clear hb hbox hg; have hnb54 := NB721_705.out; have hnc54 := NB705_721.out; have hnb55 := NB721_712.out; have hnc55 := NB712_721.out; have hnb56 := NB721_713.out; have hnc56 := NB713_721.out; have hcz57_0 : w53.cell? ⟨gb721, 0, none⟩ = some (.int .i64 0) := (blk_cell BK721.out 0).trans rfl; have hcz57_1 : w53.cell? ⟨gb721, 1, none⟩ = some (.int .i64 0) := (blk_cell BK721.out 1).trans rfl; have hfz57_0 := blk_frozen BK721.out 0; have hfz57_1 := blk_frozen BK721.out 1; have hcz58_0 : w53.cell? ⟨gb712, 0, none⟩ = some (.int .i64 t710) := (blk_cell BK712.out 0).trans rfl; have hcz58_1 : w53.cell? ⟨gb712, 1, none⟩ = some (.int .i64 t711) := (blk_cell BK712.out 1).trans rfl; have hfz58_0 := blk_frozen BK712.out 0; have hfz58_1 := blk_frozen BK712.out 1; have hcz59_0 : w53.cell? ⟨gb713, 0, none⟩ = some (.int .i64 0) := (blk_cell BK713.out 0).trans rfl; have hcz59_1 : w53.cell? ⟨gb713, 1, none⟩ = some (.int .i64 0) := (blk_cell BK713.out 1).trans rfl; have hfz59_0 := blk_frozen BK713.out 0; have hfz59_1 := blk_frozen BK713.out 1; have hcz60_0 : w53.cell? ⟨gb705, 0, none⟩ = some (.int .i64 0) := (blk_cell BK705.out 0).trans rfl; have hcz60_1 : w53.cell? ⟨gb705, 1, none⟩ = some (.int .i64 0) := (blk_cell BK705.out 1).trans rfl; have hfz60_0 := blk_frozen BK705.out 0; have hfz60_1 := blk_frozen BK705.out 1))
       refine bodyPost_ret (results_ct rfl _ _ gb705 49 #[.int .i64 ji42, .int .i64 ji43] (0, 0) _ rfl (by (with_reducible repeat (first | refine blk_drewN ?_ _ | refine blk_drew ?_ | refine blk_alloc ?_ _)); refine blk_put (cs := #[.int .i64 ji42, .int .i64 0]) ?_ 1 _ rfl; (with_reducible repeat (first | refine blk_drewN ?_ _ | refine blk_drew ?_ | refine blk_alloc ?_ _)); refine blk_put (cs := #[.int .i64 0, .int .i64 0]) ?_ 0 _ rfl; (with_reducible repeat (first | refine blk_drewN ?_ _ | refine blk_drew ?_ | refine blk_alloc ?_ _)); refine blk_far ?_ NB705_721.out _; (with_reducible repeat (first | refine blk_drewN ?_ _ | refine blk_drew ?_ | refine blk_alloc ?_ _)); refine blk_far ?_ NB705_721.out _; (with_reducible repeat (first | refine blk_drewN ?_ _ | refine blk_drew ?_ | refine blk_alloc ?_ _)); exact BK705.out) Tryd.underlying49 rfl (by kernel_rfl)) rfl ?_
       exact ⟨by first | rfl | (simp [errW_none, errW_some] <;> rfl) | (simp only [← hji42, ← hji43]; first | rfl | (simp [errW_none, errW_some] <;> rfl)) | (simp [*, errW_none, errW_some] <;> rfl), bl_⟩
     ·replace c15 := Bool.eq_false_iff.mpr c15
      subst c15
      have H1 : (some (0, 0, 31)) = some (r1, r2, r3) := by rw [if_neg (show ¬ (false = true) by decide)] at H; exact H
      clear H
      have H := H1
      clear H1
      simp only [Option.some.injEq, Prod.mk.injEq] at H
      obtain ⟨rfl, rfl, rfl⟩ := H
      have hcz61_0 : wc.cell? ⟨gb705, 0, none⟩ = some (.int .i64 0) := (blk_cell BK705.out 0).trans rfl
      have hcz61_1 : wc.cell? ⟨gb705, 1, none⟩ = some (.int .i64 0) := (blk_cell BK705.out 1).trans rfl
      have hfz61_0 := blk_frozen BK705.out 0
      have hfz61_1 := blk_frozen BK705.out 1
      go_wp2
      refine bodyPost_ret (results_ct rfl _ _ gb705 49 #[.int .i64 0, .int .i64 0] (0, 0) _ rfl (by (with_reducible repeat (first | refine blk_drewN ?_ _ | refine blk_drew ?_ | refine blk_alloc ?_ _)); refine blk_put (cs := #[.int .i64 0, .int .i64 0]) ?_ 1 _ rfl; (with_reducible repeat (first | refine blk_drewN ?_ _ | refine blk_drew ?_ | refine blk_alloc ?_ _)); refine blk_put (cs := #[.int .i64 0, .int .i64 0]) ?_ 0 _ rfl; (with_reducible repeat (first | refine blk_drewN ?_ _ | refine blk_drew ?_ | refine blk_alloc ?_ _)); exact BK705.out) Tryd.underlying49 rfl (by kernel_rfl)) rfl ?_
      exact ⟨by first | rfl | (simp [errW_none, errW_some] <;> rfl) | (simp [*, errW_none, errW_some] <;> rfl), bl_⟩
 ·rw [if_neg c5] at H
  have c5b0 : (t707 == 0) = false := beq_eq_false_iff_ne.mpr c5
  have c5b1 : (t707 != 0) = true := bne_iff_ne.mpr c5
  simp only [Option.some.injEq, Prod.mk.injEq] at H
  obtain ⟨rfl, rfl, rfl⟩ := H
  go_enter Tryd.func54, Tryd.ntmps54
  go_wp2_with (first | ((with_reducible refine gate_dst (N := 6) rfl ?_); refine box_event ?hg (N := 6) ?hd (cs := #[.int .i64 0, .int .i64 0]) (t := 49) ?hr ?_; (case hd => rfl); (case hg => rfl); (case hr => first | (go_simp; done) | (go_simp; rfl)); intro gb705 hg w62 hbox hb; have n0_ := a_ (below_step bl_ hb); have n1_ := a_ (hbox); have n2_ := a_ ((bz_ (w := w) hg)); have n3_ := a_ ((bz_ (w := w) hg)); clear HB; have HB := n0_; have BK705 := n1_; have GW705 := n2_; have GE705 := n3_; clear n0_ n1_ n2_ n3_; clear hb hbox hg) | ((with_reducible refine gate_callee (f := 50) rfl ?_); refine goesL_ (some 15) rfl rfl Tryd.func50 (by kernel_rfl) rfl #[.slice A0 l0.length c0] rfl tm_ ?_; (with_reducible refine (waterhourref04_Possible.calls k _ _ l0 t706 t707 _ ?side1 ?side2 A4.out).mono ?_); (case side1 => exact cl_ (Kd.C_below HR0.out HB.out)); (case side2 => exact HC0.out); rintro e w63 ⟨rfl, hb⟩; refine ⟨_, rfl, ?_⟩; have n0_ := a_ (bb_ BK705.out hb); have n1_ := a_ (below_step bl_ hb); clear BK705; clear HB; have BK705 := n0_; have HB := n1_; clear n0_ n1_; (try clear hb); (try clear hb2); (try clear hk); (try clear hi); have hcz64_0 : w63.cell? ⟨gb705, 0, none⟩ = some (.int .i64 0) := (blk_cell BK705.out 0).trans rfl; have hcz64_1 : w63.cell? ⟨gb705, 1, none⟩ = some (.int .i64 0) := (blk_cell BK705.out 1).trans rfl; have hfz64_0 := blk_frozen BK705.out 0; have hfz64_1 := blk_frozen BK705.out 1))
  refine bodyPost_ret (results_ct rfl _ _ gb705 49 #[.int .i64 0, .int .i64 0] (0, 0) _ rfl (by (with_reducible repeat (first | refine blk_drewN ?_ _ | refine blk_drew ?_ | refine blk_alloc ?_ _)); refine blk_put (cs := #[.int .i64 0, .int .i64 0]) ?_ 1 _ rfl; (with_reducible repeat (first | refine blk_drewN ?_ _ | refine blk_drew ?_ | refine blk_alloc ?_ _)); refine blk_put (cs := #[.int .i64 0, .int .i64 0]) ?_ 0 _ rfl; (with_reducible repeat (first | refine blk_drewN ?_ _ | refine blk_drew ?_ | refine blk_alloc ?_ _)); exact BK705.out) Tryd.underlying49 rfl (by kernel_rfl)) rfl ?_
  exact ⟨by first | rfl | (simp [errW_none, errW_some] <;> rfl) | (simp [*, errW_none, errW_some] <;> rfl), bl_⟩
end Go.Proofs.YtgiihjcpgjpkcaaDoor.Q
