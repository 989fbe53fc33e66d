/- Contracts of functions that RefillDays reaches: each Go function as a plain Lean function and the proof that its call answers just so. -/
import Derived.Test.YtgiihjcpgjpkcaaDoorKQ0
import Derived.Test.YtgiihjcpgjpkcaaDoorKQB
import Derived.Test.YtgiihjcpgjpkcaaDoorKQF
import Derived.Test.YtgiihjcpgjpkcaaDoorKHClone
import Derived.Test.YtgiihjcpgjpkcaaDoorKHEnds
import Derived.Test.YtgiihjcpgjpkcaaDoorKHTime
namespace Go.Proofs.YtgiihjcpgjpkcaaDoor.Q
open Go.RowKit Go.Proofs.YtgiihjcpgjpkcaaDoorW.PrintWords Go.Proofs.YtgiihjcpgjpkcaaDoorW.PrintLast Go.Proofs.YtgiihjcpgjpkcaaDoorW.PrintMore
attribute [local go_sem] max2_int min2_int max_two min_two max_three min_three max_four min_four   -- for this text's walks alone
set_option linter.unusedVariables false
set_option linter.unusedSimpArgs false
mutual
def refill_Attain.j0 : Nat → List (S51) → Int → Int → Bool → Option (List Int × Bool × Int)
 | 0, _, _, _, _ => none
 | k + 1, x0, x1, x2, x31 => if x31 = true then (some (([] : List Int), false, 0)) else ((refill_time.f x0 x1).bind fun bt142 => (if x2 < bt142.1 then (refill_Attain.j1 k x0 x1 x2 true) else (refill_Attain.j1 k x0 x1 x2 (decide (x2 > bt142.2)))))
def refill_Attain.j1 : Nat → List (S51) → Int → Int → Bool → Option (List Int × Bool × Int)
 | 0, _, _, _, _ => none
 | k + 1, x0, x1, x2, x44 => if x44 = true then (some (([] : List Int), false, 0)) else ((slices_CloneDay.f x0).bind fun t145 => (if 0 ≤ x1 then (if x1 < (t145.length : Int) then ((refill_Earliest.f (t145.set (x1 : Int).toNat (⟨(⟨(rd_T51 t145 x1).f0.f0, (rd_T51 t145 x1).f0.f1⟩ : S49), (⟨x2, x2⟩ : S49)⟩ : S51))).bind fun bt149 => (some (bt149.1, (bt149.2 == 0), 0))) else (none)) else (none)))
end
def refill_Attain.f (k : Nat) (l0 : List (S51)) (a1 : Int) (a2 : Int) : Option (List Int × Bool × Int) := (refill_event.f k l0 0 (([a1] : List Int))).bind fun t140 => (if t140 = 0 then (if a2 < 0 then (refill_Attain.j0 k l0 a1 a2 true) else (if a2 > 16777216 then (refill_Attain.j0 k l0 a1 a2 true) else ((refill_possible.f l0).bind fun t141 => (refill_Attain.j0 k l0 a1 a2 (!t141))))) else (some (([] : List Int), false, t140)))
theorem refill_Attain.mono_l : ∀ k, (∀ y0 y1 y2 y3, LeO (refill_Attain.j0 k y0 y1 y2 y3) (refill_Attain.j0 (k + 1) y0 y1 y2 y3)) ∧ (∀ y0 y1 y2 y3, LeO (refill_Attain.j1 k y0 y1 y2 y3) (refill_Attain.j1 (k + 1) y0 y1 y2 y3))
 | 0 => ⟨fun _ _ _ _ r h => by simp [refill_Attain.j0] at h, fun _ _ _ _ r h => by simp [refill_Attain.j1] at h⟩
 | k + 1 => by
  obtain ⟨ih0, ih1⟩ := refill_Attain.mono_l k
  refine ⟨?_, ?_⟩
  ·intro y0 y1 y2 y3
   unfold refill_Attain.j0
   repeat' first
   | (with_reducible exact ih0 _ _ _ _)
   | (with_reducible exact ih1 _ _ _ _)
   | (with_reducible exact refill_event.mono _ _ _ _)
   | (with_reducible exact LeO.refl _)
   | (with_reducible exact LeO.none _)
   | (with_reducible refine LeO.ite ?_ ?_)
   | (with_reducible refine LeO.bind ?_ (fun _ => ?_))
   | exact ih0 _ _ _ _
   | exact ih1 _ _ _ _
   | exact refill_event.mono _ _ _ _
   | exact LeO.none _
   | refine LeO.ite ?_ ?_
   | refine LeO.bind ?_ (fun _ => ?_)
  ·intro y0 y1 y2 y3
   unfold refill_Attain.j1
   repeat' first
   | (with_reducible exact ih0 _ _ _ _)
   | (with_reducible exact ih1 _ _ _ _)
   | (with_reducible exact refill_event.mono _ _ _ _)
   | (with_reducible exact LeO.refl _)
   | (with_reducible exact LeO.none _)
   | (with_reducible refine LeO.ite ?_ ?_)
   | (with_reducible refine LeO.bind ?_ (fun _ => ?_))
   | exact ih0 _ _ _ _
   | exact ih1 _ _ _ _
   | exact refill_event.mono _ _ _ _
   | exact LeO.none _
   | refine LeO.ite ?_ ?_
   | refine LeO.bind ?_ (fun _ => ?_)
theorem refill_Attain.mono : ∀ a0 a1 a2 k, LeO (refill_Attain.f k a0 a1 a2) (refill_Attain.f (k + 1) a0 a1 a2) := by
 intro a0 a1 a2 k
 obtain ⟨ih0, ih1⟩ := refill_Attain.mono_l k
 unfold refill_Attain.f
 repeat' first
   | (with_reducible exact ih0 _ _ _ _)
   | (with_reducible exact ih1 _ _ _ _)
   | (with_reducible exact refill_event.mono _ _ _ _)
   | (with_reducible exact LeO.refl _)
   | (with_reducible exact LeO.none _)
   | (with_reducible refine LeO.ite ?_ ?_)
   | (with_reducible refine LeO.bind ?_ (fun _ => ?_))
   | exact ih0 _ _ _ _
   | exact ih1 _ _ _ _
   | exact refill_event.mono _ _ _ _
   | exact LeO.none _
   | refine LeO.ite ?_ ?_
   | refine LeO.bind ?_ (fun _ => ?_)
set_option maxHeartbeats 8000000 in
set_option maxRecDepth 100000 in
theorem refill_Attain.calls (k : Nat) (A0 : Option Addr) (c0 : Nat) (l0 : List (S51)) (a1 : Int) (a2 : Int) (r1 : List Int) (r2 : Bool) (r3 : Int) (w : World) (hr0 : Kd.C k51 w A0 l0.length l0) (hc0 : l0.length ≤ c0) (h : refill_Attain.f k l0 a1 a2 = some (r1, r2, r3)) :
  Calls Tryd.prog 20 #[.slice A0 l0.length c0, .int .i64 a1, .int .i64 a2] w fun e w' => ∃ v0_ : Value, e = .returned (.tuple #[v0_, .bool r2, .int .i64 r3]) ∧ Kd.R (Kd.int .i64) 3 w' w.heap.size (fun _ => True) v0_ r1 ∧ Below w.heap.size w w' := by
 have hu49 := Tryd.underlying49
 have HR0 := a_ hr0
 have HC0 := a_ hc0
 clear hr0 hc0
 have HB := a_ (Below.refl w.heap.size w)
 have H : ((refill_event.f k l0 0 (([a1] : List Int))).bind fun t140 => (if t140 = 0 then (if a2 < 0 then (refill_Attain.j0 k l0 a1 a2 true) else (if a2 > 16777216 then (refill_Attain.j0 k l0 a1 a2 true) else ((refill_possible.f l0).bind fun t141 => (refill_Attain.j0 k l0 a1 a2 (!t141))))) else (some (([] : List Int), false, t140)))) = some (r1, r2, r3) := h
 clear h
 obtain ⟨y137, hy137⟩ : ∃ y_ : List Int, y_ = (([a1] : List Int)) := ⟨_, rfl⟩
 replace H : ((refill_event.f k l0 0 y137).bind fun t140 => (if t140 = 0 then (if a2 < 0 then (refill_Attain.j0 k l0 a1 a2 true) else (if a2 > 16777216 then (refill_Attain.j0 k l0 a1 a2 true) else ((refill_possible.f l0).bind fun t141 => (refill_Attain.j0 k l0 a1 a2 (!t141))))) else (some (([] : List Int), false, t140)))) = some (r1, r2, r3) := by first | (rw [hy137]; with_reducible exact H) | (have H2_ := (Option.bind_some _ _).symm.trans H; rw [hy137]; with_reducible exact H2_) | (have H2_ := (Option.bind_some _ _).symm.trans H; with_reducible exact H2_) | with_reducible exact H | (rw [hy137]; exact H) | exact H
 have Ny137 := a_ hy137
 clear hy137
 replace H := Option.bind_eq_some_iff.mp H
 obtain ⟨t140, A40, H⟩ := H
 replace H : (if t140 = 0 then (if a2 < 0 then (refill_Attain.j0 k l0 a1 a2 true) else (if a2 > 16777216 then (refill_Attain.j0 k l0 a1 a2 true) else ((refill_possible.f l0).bind fun t141 => (refill_Attain.j0 k l0 a1 a2 (!t141))))) else (some (([] : List Int), false, t140))) = some (r1, r2, r3) := H
 have A4 := a_ A40
 clear A40
 by_cases c5 : t140 = 0
 ·rw [if_pos c5] at H
  have c5b0 : (t140 == 0) = true := beq_iff_eq.mpr c5
  have c5b1 : (t140 != 0) = false := bne_eq_false_iff_eq.mpr c5
  clear c5
  have HC6 := a_ H
  clear H
  go_enter Tryd.func20, Tryd.ntmps20
  go_upto_region 4 with (first | ((with_reducible refine gate_dst (N := 16) rfl ?_); refine Kd.R_lit (Kd.int .i64) _ 3 ?hg (N := 16) ?hd (xs := ([a1] : List Int)) (inner := [.int .i64 a1]) (ok := fun _ => True) (okp := fun _ => True) ?hr ?hp (fun _ hk => hk) trivial (Below.refl _ _) (Nat.le_refl _) (by simp) ?_; (case hd => rfl); (case hg => rfl); (case hr => first | (go_simp; done) | (go_simp; rfl)); (case hp => exact (Reps.one (show Kd.M (Kd.int .i64) _ _ _ a1 [.int .i64 a1] from rfl) (Reps.none _ _))); intro v138 w7 ho8 hb hg_ hnew_; clear hg_ hnew_; (first | rw [← Ny137.out] at ho8 | (simp only [Int.reduceToNat] at ho8; rw [← Ny137.out] at ho8)); have n0_ := a_ (Kd.R_lower ho8 (below_size bl_)); have n1_ := a_ (below_step bl_ hb); clear HB; have HO139 := n0_; have HB := n1_; clear n0_ n1_; clear hb ho8; obtain ⟨Ao9, co9, eo9⟩ := Kd.R_slice HO139.out; subst eo9) | ((with_reducible refine gate_callee (f := 63) rfl ?_); refine goesL_ (some 17) rfl rfl Tryd.func63 (by kernel_rfl) rfl #[.slice A0 l0.length c0, .int .i64 0, .slice Ao9 y137.length co9] rfl tm_ ?_; (with_reducible refine (refill_event.calls k _ _ l0 0 _ _ y137 t140 _ ?side1 ?side2 ?side3 ?side4 A4.out).mono ?_); (case side1 => exact cl_ (Kd.C_below HR0.out HB.out)); (case side2 => exact HC0.out); (case side3 => exact cl_ ((Kd.R_reads' HO139.out).2.2)); (case side4 => exact (Kd.R_reads' HO139.out).2.1); rintro e w10 ⟨rfl, hb⟩; refine ⟨_, rfl, ?_⟩; have n0_ := a_ (Kd.R_below (rl_ HO139.out) hb); have n1_ := a_ (below_step bl_ hb); clear HO139; clear HB; have HO139 := n0_; have HB := n1_; clear n0_ n1_; (try clear hb); (try clear hb2); (try clear hk); (try clear hi)))
  (try simp only [Act.put, List.setIfInBounds_toArray, List.set_cons_zero, List.set_cons_succ])
  go_cut [31] (fun v31 wc => ∃ (kq : Nat) (x31_5 : Bool), v31 = .bool x31_5 ∧ Aside0 (refill_Attain.j0 kq l0 a1 a2 x31_5 = some (r1, r2, r3)) ∧ Aside0 (kq ≤ k) ∧ Aside0 (Below w.heap.size w wc))
  case first =>
   have H := HC6.out
   clear HC6
   by_cases c11 : a2 < 0
   ·rw [if_pos c11] at H
    have c11b0 : decide (a2 < 0) = true := decide_eq_true c11
    clear c11
    (first | rw [c11b0] | (simp only [i64_w, i32_w]; rw [c11b0]) | skip)
    have H' := a_ H
    clear H
    go_wp2
    go_meet
    case rel => exact ⟨_, (true), (by first | rfl | (simp; done) | (simp [*]; done)), H', ⟨by first | omega | exact Nat.le_refl _⟩, ⟨bl_⟩⟩
   ·rw [if_neg c11] at H
    have c11b0 : decide (a2 < 0) = false := decide_eq_false c11
    clear c11
    (first | rw [c11b0] | (simp only [i64_w, i32_w]; rw [c11b0]) | skip)
    by_cases c12 : a2 > 16777216
    ·rw [if_pos c12] at H
     have c12b0 : decide (16777216 < a2) = true := decide_eq_true c12
     clear c12
     have H' := a_ H
     clear H
     go_wp2
     go_meet
     case rel => exact ⟨_, (true), (by first | rfl | (simp; done) | (simp [*]; done)), H', ⟨by first | omega | exact Nat.le_refl _⟩, ⟨bl_⟩⟩
    ·rw [if_neg c12] at H
     have c12b0 : decide (16777216 < a2) = false := decide_eq_false c12
     clear c12
     replace H := Option.bind_eq_some_iff.mp H
     obtain ⟨t141, A130, H⟩ := H
     replace H : (refill_Attain.j0 k l0 a1 a2 (!t141)) = some (r1, r2, r3) := H
     have A13 := a_ A130
     clear A130
     have H' := a_ H
     clear H
     go_wp2_with (first | (go_at_call 64; (with_reducible refine (refill_possible.calls _ _ l0 t141 _ ?side1 ?side2 A13.out).mono ?_); (case side1 => exact cl_ (Kd.C_below HR0.out HB.out)); (case side2 => exact HC0.out); rintro e w14 ⟨rfl, hb⟩; have n0_ := a_ (Kd.R_below (rl_ HO139.out) hb); have n1_ := a_ (below_step bl_ hb); clear HO139; clear HB; have HO139 := n0_; have HB := n1_; clear n0_ n1_; (try clear hb); (try clear hb2); (try clear hk); (try clear hi)))
     go_meet
     case rel => exact ⟨_, (!t141), (by first | rfl | (simp; done) | (simp [*]; done)), H', ⟨by first | omega | exact Nat.le_refl _⟩, ⟨bl_⟩⟩
  case rest =>
   clear HC6
   try clear c1
   try clear c2
   try clear p2
   try clear c5
   try clear c5b0
   try clear c5b1
   try clear c6
   try clear c11
   try clear c11b0
   try clear c12
   try clear c12b0
   obtain ⟨kq, x31_5, rfl, HA, HJ5, HB⟩ := hcut
   cases kq with
   | zero => exact absurd HA.out (by simp [refill_Attain.j0])
   | succ kj5 =>
    have H := HA.out
    clear HA
    simp only [refill_Attain.j0] at H
    by_cases c15 : x31_5 = true
    ·subst c15
     have H1 : (some (([] : List Int), false, 0)) = some (r1, r2, r3) := by rw [if_pos rfl] at H; exact H
     clear H
     have H := H1
     clear H1
     simp only [Option.some.injEq, Prod.mk.injEq] at H
     obtain ⟨rfl, rfl, rfl⟩ := H
     go_wp2
     go_ret3
     exact ⟨_, by first | rfl | (simp [errW_none, errW_some] <;> rfl) | (simp [*, errW_none, errW_some] <;> rfl), by first | exact Kd.R_nil _ _ _ _ _ | exact Kd.N_nil _ _ _ _ _ | exact Kd.V_nil _ _ _ _ _ | exact Kd.Q_nil _ _ _ _ _ | exact Kd.S_nil _ _ _ _ _, bl_⟩
    ·replace c15 := Bool.eq_false_iff.mpr c15
     subst c15
     have H1 : ((refill_time.f l0 a1).bind fun bt142 => (if a2 < bt142.1 then (refill_Attain.j1 kj5 l0 a1 a2 true) else (refill_Attain.j1 kj5 l0 a1 a2 (decide (a2 > bt142.2))))) = some (r1, r2, r3) := by rw [if_neg (show ¬ (false = true) by decide)] at H; exact H
     clear H
     have H := H1
     clear H1
     replace H := Option.bind_eq_some_iff.mp H
     obtain ⟨⟨t142, t143⟩, A160, H⟩ := H
     replace H : (if a2 < t142 then (refill_Attain.j1 kj5 l0 a1 a2 true) else (refill_Attain.j1 kj5 l0 a1 a2 (decide (a2 > t143)))) = some (r1, r2, r3) := H
     have A16 := a_ A160
     clear A160
     have HC17 := a_ H
     clear H
     go_upto_region 7 with (first | ((with_reducible refine gate_callee (f := 65) rfl ?_); refine goesL_ (some 34) rfl rfl Tryd.func65 (by kernel_rfl) rfl #[.slice A0 l0.length c0, .int .i64 a1] rfl tm_ ?_; (with_reducible refine (refill_time.calls _ _ l0 a1 t142 t143 _ ?side1 ?side2 A16.out).mono ?_); (case side1 => exact cl_ (Kd.C_below HR0.out HB.out)); (case side2 => exact HC0.out); rintro e w18 ⟨rfl, hb⟩; refine ⟨_, rfl, ?_⟩; have n0_ := a_ (below_step bl_ hb); clear HB; have HB := n0_; clear n0_; (try clear hb); (try clear hb2); (try clear hk); (try clear hi)) | ((with_reducible refine gate_dst (N := 10) rfl ?_); refine box_event ?hg (N := 10) ?hd (cs := #[.int .i64 0, .int .i64 0]) (t := 49) ?hr ?_; (case hd => rfl); (case hg => rfl); (case hr => first | (go_simp; done) | (go_simp; rfl)); intro gb144 hg w19 hbox hb; have n0_ := a_ (below_step bl_ hb); have n1_ := a_ (hbox); have n2_ := a_ ((bz_ (w := w) hg)); have n3_ := a_ ((bz_ (w := w) hg)); clear HB; have HB := n0_; have BK144 := n1_; have GW144 := n2_; have GE144 := n3_; clear n0_ n1_ n2_ n3_; clear hb hbox hg; have hcz20_0 : w19.cell? ⟨gb144, 0, none⟩ = some (.int .i64 0) := (blk_cell BK144.out 0).trans rfl; have hcz20_1 : w19.cell? ⟨gb144, 1, none⟩ = some (.int .i64 0) := (blk_cell BK144.out 1).trans rfl; have hfz20_0 := blk_frozen BK144.out 0; have hfz20_1 := blk_frozen BK144.out 1))
     (try simp only [Act.put, List.setIfInBounds_toArray, List.set_cons_zero, List.set_cons_succ])
     go_cut [44] (fun v44 wc => ∃ (kq : Nat) (x44_16 : Bool), v44 = .bool x44_16 ∧ Aside0 (refill_Attain.j1 kq l0 a1 a2 x44_16 = some (r1, r2, r3)) ∧ Aside0 (kq ≤ kj5) ∧ Aside0 (wc.heap[gb144]? = some (.cells #[.int .i64 t142, .int .i64 t143] 49 (0, 0))) ∧ Aside0 (Below w.heap.size w wc))
     case first =>
      have H := HC17.out
      clear HC17
      by_cases c21 : a2 < t142
      ·rw [if_pos c21] at H
       have c21b0 : decide (a2 < t142) = true := decide_eq_true c21
       clear c21
       (first | rw [c21b0] | (simp only [i64_w, i32_w]; rw [c21b0]) | skip)
       have H' := a_ H
       clear H
       have hcz22_0 : w19.cell? ⟨gb144, 0, none⟩ = some (.int .i64 0) := (blk_cell BK144.out 0).trans rfl
       have hcz22_1 : w19.cell? ⟨gb144, 1, none⟩ = some (.int .i64 0) := (blk_cell BK144.out 1).trans rfl
       have hfz22_0 := blk_frozen BK144.out 0
       have hfz22_1 := blk_frozen BK144.out 1
       go_wp2
       go_meet
       case rel => exact ⟨_, (true), (by first | rfl | (simp; done) | (simp [*]; done)), H', ⟨by have := HJ5.out; first | omega | exact Nat.le_refl _⟩, ⟨by (with_reducible repeat (first | refine blk_drewN ?_ _ | refine blk_drew ?_ | refine blk_alloc ?_ _)); refine blk_put (cs := #[.int .i64 t142, .int .i64 0]) ?_ 1 _ rfl; (with_reducible repeat (first | refine blk_drewN ?_ _ | refine blk_drew ?_ | refine blk_alloc ?_ _)); refine blk_put (cs := #[.int .i64 0, .int .i64 0]) ?_ 0 _ rfl; (with_reducible repeat (first | refine blk_drewN ?_ _ | refine blk_drew ?_ | refine blk_alloc ?_ _)); exact BK144.out⟩, ⟨bl_⟩⟩
      ·rw [if_neg c21] at H
       have c21b0 : decide (a2 < t142) = false := decide_eq_false c21
       clear c21
       (first | rw [c21b0] | (simp only [i64_w, i32_w]; rw [c21b0]) | skip)
       have H' := a_ H
       clear H
       have hcz23_0 : w19.cell? ⟨gb144, 0, none⟩ = some (.int .i64 0) := (blk_cell BK144.out 0).trans rfl
       have hcz23_1 : w19.cell? ⟨gb144, 1, none⟩ = some (.int .i64 0) := (blk_cell BK144.out 1).trans rfl
       have hfz23_0 := blk_frozen BK144.out 0
       have hfz23_1 := blk_frozen BK144.out 1
       go_wp2
       go_meet
       case rel => exact ⟨_, (decide (a2 > t143)), (by first | rfl | (simp; done) | (simp [*]; done)), H', ⟨by have := HJ5.out; first | omega | exact Nat.le_refl _⟩, ⟨by (with_reducible repeat (first | refine blk_drewN ?_ _ | refine blk_drew ?_ | refine blk_alloc ?_ _)); refine blk_put (cs := #[.int .i64 t142, .int .i64 0]) ?_ 1 _ rfl; (with_reducible repeat (first | refine blk_drewN ?_ _ | refine blk_drew ?_ | refine blk_alloc ?_ _)); refine blk_put (cs := #[.int .i64 0, .int .i64 0]) ?_ 0 _ rfl; (with_reducible repeat (first | refine blk_drewN ?_ _ | refine blk_drew ?_ | refine blk_alloc ?_ _)); exact BK144.out⟩, ⟨bl_⟩⟩
     case rest =>
      clear HC17
      try clear c1
      try clear c2
      try clear p2
      try clear c5
      try clear c5b0
      try clear c5b1
      try clear c6
      try clear c11
      try clear c11b0
      try clear c12
      try clear c12b0
      try clear c15
      try clear c20
      try clear c21
      try clear c21b0
      try clear hcz20_0
      try clear hcz20_1
      try clear hcz22_0
      try clear hcz22_1
      try clear hcz23_0
      try clear hcz23_1
      try clear hfz20_0
      try clear hfz20_1
      try clear hfz22_0
      try clear hfz22_1
      try clear hfz23_0
      try clear hfz23_1
      try clear p2
      obtain ⟨kq, x44_16, rfl, HA, HJ16, BK144, HB⟩ := hcut
      cases kq with
      | zero => exact absurd HA.out (by simp [refill_Attain.j1])
      | succ kj16 =>
       have H := HA.out
       clear HA
       simp only [refill_Attain.j1] at H
       by_cases c24 : x44_16 = true
       ·subst c24
        have H1 : (some (([] : List Int), false, 0)) = some (r1, r2, r3) := by rw [if_pos rfl] at H; exact H
        clear H
        have H := H1
        clear H1
        simp only [Option.some.injEq, Prod.mk.injEq] at H
        obtain ⟨rfl, rfl, rfl⟩ := H
        go_wp2
        go_ret3
        exact ⟨_, by first | rfl | (simp [errW_none, errW_some] <;> rfl) | (simp [*, errW_none, errW_some] <;> rfl), by first | exact Kd.R_nil _ _ _ _ _ | exact Kd.N_nil _ _ _ _ _ | exact Kd.V_nil _ _ _ _ _ | exact Kd.Q_nil _ _ _ _ _ | exact Kd.S_nil _ _ _ _ _, bl_⟩
       ·replace c24 := Bool.eq_false_iff.mpr c24
        subst c24
        have H1 : ((slices_CloneDay.f l0).bind fun t145 => (if 0 ≤ a1 then (if a1 < (t145.length : Int) then ((refill_Earliest.f (t145.set (a1 : Int).toNat (⟨(⟨(rd_T51 t145 a1).f0.f0, (rd_T51 t145 a1).f0.f1⟩ : S49), (⟨a2, a2⟩ : S49)⟩ : S51))).bind fun bt149 => (some (bt149.1, (bt149.2 == 0), 0))) else (none)) else (none))) = some (r1, r2, r3) := by rw [if_neg (show ¬ (false = true) by decide)] at H; exact H
        clear H
        have H := H1
        clear H1
        replace H := Option.bind_eq_some_iff.mp H
        obtain ⟨t145, A250, H⟩ := H
        replace H : (if 0 ≤ a1 then (if a1 < (t145.length : Int) then ((refill_Earliest.f (t145.set (a1 : Int).toNat (⟨(⟨(rd_T51 t145 a1).f0.f0, (rd_T51 t145 a1).f0.f1⟩ : S49), (⟨a2, a2⟩ : S49)⟩ : S51))).bind fun bt149 => (some (bt149.1, (bt149.2 == 0), 0))) else (none)) else (none)) = some (r1, r2, r3) := H
        have A25 := a_ A250
        clear A250
        by_cases c26 : 0 ≤ a1
        ·rw [if_pos c26] at H
         have c26b0 : decide (0 ≤ a1) = true := decide_eq_true c26
         clear c26
         by_cases c27 : a1 < (t145.length : Int)
         ·rw [if_pos c27] at H
          have c27b0 : decide (a1 < (t145.length : Int)) = true := decide_eq_true c27
          clear c27
          obtain ⟨y148, hy148⟩ : ∃ y_ : List (S51), y_ = (t145.set (a1 : Int).toNat (⟨(⟨(rd_T51 t145 a1).f0.f0, (rd_T51 t145 a1).f0.f1⟩ : S49), (⟨a2, a2⟩ : S49)⟩ : S51)) := ⟨_, rfl⟩
          replace H : ((refill_Earliest.f y148).bind fun bt149 => (some (bt149.1, (bt149.2 == 0), 0))) = some (r1, r2, r3) := by first | (rw [hy148]; with_reducible exact H) | (have H2_ := (Option.bind_some _ _).symm.trans H; rw [hy148]; with_reducible exact H2_) | (have H2_ := (Option.bind_some _ _).symm.trans H; with_reducible exact H2_) | with_reducible exact H | (rw [hy148]; exact H) | exact H
          have Ny148 := a_ hy148
          clear hy148
          replace H := Option.bind_eq_some_iff.mp H
          obtain ⟨⟨t149, t150⟩, A290, H⟩ := H
          replace H : (some (t149, (t150 == 0), 0)) = some (r1, r2, r3) := H
          have A29 := a_ A290
          clear A290
          simp only [Option.some.injEq, Prod.mk.injEq] at H
          obtain ⟨rfl, rfl, rfl⟩ := H
          go_wp2_with (first | ((with_reducible refine gate_callee (f := 46) rfl ?_); refine goesL_ (some 46) rfl rfl Tryd.func46 (by kernel_rfl) rfl #[.slice A0 l0.length c0] rfl tm_ ?_; (with_reducible refine (slices_CloneDay.calls _ _ l0 t145 _ ?side1 ?side2 A25.out).mono ?_); (case side1 => exact cl_ (Kd.C_below HR0.out HB.out)); (case side2 => exact HC0.out); rintro e w30 ⟨v146, rfl, ho0, hb⟩; refine ⟨_, rfl, ?_⟩; have n0_ := a_ (Kd.R_lower ho0 (below_size bl_)); have n1_ := a_ (bb_ BK144.out hb); have n2_ := a_ (below_step bl_ hb); clear BK144; clear HB; have HO147 := n0_; have BK144 := n1_; have HB := n2_; clear n0_ n1_ n2_; (try clear hb); (try clear hb2); (try clear hk); (try clear hi); (try clear ho0); have p28 : 0 ≤ (a1 : Int) := of_decide_eq_true (by first | (with_reducible assumption) | assumption); have q28 : (a1 : Int) < ((t145.length : Int) : Int) := of_decide_eq_true (by first | (with_reducible assumption) | assumption); obtain ⟨go28, co28, eo28, gb28, gl28, cl28, HG28⟩ := Kd.R_form HO147.out (by omega); (first | cases eo28 | (injection eo28 with ea_ en_ ec_; (first | subst ea_ | (injection ea_ with ea_; subst ea_)); subst ec_; clear en_)); have GB28 := a_ gb28; have GG28 := a_ HG28; clear gb28 gl28 HG28; obtain ⟨ce28, hcl28, hM28, hcc28, hfr28⟩ := Kd.R_elem HO147.out z51 (a1 : Int) p28 q28; obtain rfl := k51_openM hM28; have hx28_0 : w30.cell? ⟨go28, (a1 : Int).toNat * 4, none⟩ = some (.int .i64 ((rd_T51 t145 a1).f0.f0)) := hcc28 0 _ rfl; have hx28_1 : w30.cell? ⟨go28, (a1 : Int).toNat * 4 + 1, none⟩ = some (.int .i64 ((rd_T51 t145 a1).f0.f1)) := hcc28 1 _ rfl; have hx28_2 : w30.cell? ⟨go28, (a1 : Int).toNat * 4 + 2, none⟩ = some (.int .i64 ((rd_T51 t145 a1).f1.f0)) := hcc28 2 _ rfl; have hx28_3 : w30.cell? ⟨go28, (a1 : Int).toNat * 4 + 3, none⟩ = some (.int .i64 ((rd_T51 t145 a1).f1.f1)) := hcc28 3 _ rfl; have hf28_0 : w30.frozen? ⟨go28, (a1 : Int).toNat * 4, none⟩ = false := hfr28 0; have hf28_1 : w30.frozen? ⟨go28, (a1 : Int).toNat * 4 + 1, none⟩ = false := hfr28 1; have hf28_2 : w30.frozen? ⟨go28, (a1 : Int).toNat * 4 + 2, none⟩ = false := hfr28 2; have hf28_3 : w30.frozen? ⟨go28, (a1 : Int).toNat * 4 + 3, none⟩ = false := hfr28 3; clear hcl28 hcc28 hfr28 hM28; replace p28 := eq_true p28; replace q28 := eq_true q28; have HX31 := a_ (show Kd.R k51 51 w30 w.heap.size (fun _ => True) (.slice (some ⟨go28, 0, none⟩) t145.length co28) t145 from (rl_ HO147.out)); obtain ⟨ce31, hcl31, hM31, hcc31, hfr31⟩ := Kd.R_elem HX31.out z51 (a1 : Int) (of_decide_eq_true (by first | (with_reducible assumption) | assumption)) (by have h_ : (a1 : Int) < ((t145.length : Int) : Int) := of_decide_eq_true (by first | (with_reducible assumption) | assumption); first | exact h_ | (have e_ := (Kd.R_reads' HO147.out).1; omega) | simpa using h_); obtain rfl := k51_openM hM31; have HP31 := Kd.R_seg HX31.out (a1 : Int) (of_decide_eq_true (by first | (with_reducible assumption) | assumption)) (by have h_ : (a1 : Int) < ((t145.length : Int) : Int) := of_decide_eq_true (by first | (with_reducible assumption) | assumption); first | exact h_ | (have e_ := (Kd.R_reads' HO147.out).1; omega) | simpa using h_) (seg := [.int .i64 a2, .int .i64 a2]) (j := 2) hcl31 hcc31 (show 4 ≤ 4 from by decide) (x' := (⟨(⟨(rd_T51 t145 a1).f0.f0, (rd_T51 t145 a1).f0.f1⟩ : S49), (⟨a2, a2⟩ : S49)⟩ : S51)) (k51_mkM _ _ _ (⟨(⟨(rd_T51 t145 a1).f0.f0, (rd_T51 t145 a1).f0.f1⟩ : S49), (⟨a2, a2⟩ : S49)⟩ : S51) ) (fun _ hk => hk); have hx31_2 := hcc31 2 _ rfl; (try simp only [show (k51).sz = 4 from rfl, Nat.mul_one, Nat.add_zero] at hx31_2); have hf31_2 := hfr31 2; (try simp only [show (k51).sz = 4 from rfl, Nat.mul_one, Nat.add_zero] at hf31_2); have hx31_3 := hcc31 3 _ rfl; (try simp only [show (k51).sz = 4 from rfl, Nat.mul_one, Nat.add_zero] at hx31_3); have hf31_3 := hfr31 3; (try simp only [show (k51).sz = 4 from rfl, Nat.mul_one, Nat.add_zero] at hf31_3); clear hcl31 hcc31 hfr31 hM31) | ((with_reducible refine gate_store (t := 49) (p := 53) rfl ?_); refine store_event (t := 49) (p := 53) (v := ?vo_w32) (w1 := ((w30.setCell ⟨go28, (a1 : Int).toNat * 4 + 2, none⟩ (.int .i64 a2)).setCell ⟨go28, (a1 : Int).toNat * 4 + 3, none⟩ (.int .i64 a2))) ?hg ?ho ?hn ?hr ?_; (case ho => rfl); (case hg => rfl); (case hn => rfl); (case hr => first | (go_simp; done) | (go_simp; rfl)); intro w32 hw; have hg : w30.grownBy w32 (some go28) := (by rw [hw]; exact HP31.2); have hp_ : Kd.R k51 51 w32 w.heap.size (fun _ => True) (.slice (some ⟨go28, 0, none⟩) t145.length co28) y148 := (by rw [hw, Ny148.out]; exact HP31.1); clear HP31; have n0_ := a_ (blk_grown (g := gb144) (o := .cells #[.int .i64 t142, .int .i64 t143] 49 (0, 0)) (by (with_reducible repeat (first | refine blk_drewN ?_ _ | refine blk_drew ?_ | refine blk_alloc ?_ _)); exact BK144.out) hg (Kd.R_ne HO147.out BK144.out (by decide))); have n1_ := a_ (hp_); have n2_ := a_ ((by rw [hw]; exact below_set (below_set (HB.out) GB28.out) GB28.out : Below w.heap.size w w32)); clear BK144; clear HO147; clear HB; have BK144 := n0_; have HO147 := n1_; have HB := n2_; clear n0_ n1_ n2_; clear hg hw hp_) | ((with_reducible refine gate_callee (f := 41) rfl ?_); refine goesL_ (some 56) rfl rfl Tryd.func41 (by kernel_rfl) rfl #[.slice (some ⟨go28, 0, none⟩) y148.length co28] rfl (by (try simp only [List.map_toArray, List.map_cons, List.map_nil]); first | done | (rw [show y148.length = t145.length from (Kd.R_reads' HO147.out).1.symm] <;> rfl) | rfl | (simp only [List.length_drop, List.length_take]; rfl)) ?_; (with_reducible refine (refill_Earliest.calls _ _ y148 t149 t150 _ ?side1 ?side2 A29.out).mono ?_); (case side1 => exact cl_ ((Kd.R_reads' HO147.out).2.2)); (case side2 => rw [show y148.length = t145.length from (Kd.R_reads' HO147.out).1.symm]; exact (Kd.R_reads' HO147.out).2.1); rintro e w33 ⟨v151, rfl, ho0, hb⟩; refine ⟨_, rfl, ?_⟩; have n0_ := a_ (Kd.R_below (rl_ HO147.out) hb); have n1_ := a_ (Kd.R_lower ho0 (below_size bl_)); have n2_ := a_ (bb_ BK144.out hb); have n3_ := a_ (below_step bl_ hb); clear HO147; clear BK144; clear HB; have HO147 := n0_; have HO152 := n1_; have BK144 := n2_; have HB := n3_; clear n0_ n1_ n2_ n3_; (try clear hb); (try clear hb2); (try clear hk); (try clear hi); (try clear ho0)))
          go_ret3
          exact ⟨_, by first | rfl | (simp [errW_none, errW_some] <;> rfl) | (simp [*, errW_none, errW_some] <;> rfl), by (with_reducible repeat (first | apply Kd.R_alloc | apply Kd.R_drewN | apply Kd.R_drew)); exact HO152.out, bl_⟩
         ·rw [if_neg c27] at H
          exact absurd H (by simp)
        ·rw [if_neg c26] at H
         exact absurd H (by simp)
 ·rw [if_neg c5] at H
  have c5b0 : (t140 == 0) = false := beq_eq_false_iff_ne.mpr c5
  have c5b1 : (t140 != 0) = true := bne_iff_ne.mpr c5
  simp only [Option.some.injEq, Prod.mk.injEq] at H
  obtain ⟨rfl, rfl, rfl⟩ := H
  go_enter Tryd.func20, Tryd.ntmps20
  go_wp2_with (first | ((with_reducible refine gate_dst (N := 16) rfl ?_); refine Kd.R_lit (Kd.int .i64) _ 3 ?hg (N := 16) ?hd (xs := ([a1] : List Int)) (inner := [.int .i64 a1]) (ok := fun _ => True) (okp := fun _ => True) ?hr ?hp (fun _ hk => hk) trivial (Below.refl _ _) (Nat.le_refl _) (by simp) ?_; (case hd => rfl); (case hg => rfl); (case hr => first | (go_simp; done) | (go_simp; rfl)); (case hp => exact (Reps.one (show Kd.M (Kd.int .i64) _ _ _ a1 [.int .i64 a1] from rfl) (Reps.none _ _))); intro v138 w34 ho35 hb hg_ hnew_; clear hg_ hnew_; (first | rw [← Ny137.out] at ho35 | (simp only [Int.reduceToNat] at ho35; rw [← Ny137.out] at ho35)); have n0_ := a_ (Kd.R_lower ho35 (below_size bl_)); have n1_ := a_ (below_step bl_ hb); clear HB; have HO139 := n0_; have HB := n1_; clear n0_ n1_; clear hb ho35; obtain ⟨Ao36, co36, eo36⟩ := Kd.R_slice HO139.out; subst eo36) | ((with_reducible refine gate_callee (f := 63) rfl ?_); refine goesL_ (some 17) rfl rfl Tryd.func63 (by kernel_rfl) rfl #[.slice A0 l0.length c0, .int .i64 0, .slice Ao36 y137.length co36] rfl tm_ ?_; (with_reducible refine (refill_event.calls k _ _ l0 0 _ _ y137 t140 _ ?side1 ?side2 ?side3 ?side4 A4.out).mono ?_); (case side1 => exact cl_ (Kd.C_below HR0.out HB.out)); (case side2 => exact HC0.out); (case side3 => exact cl_ ((Kd.R_reads' HO139.out).2.2)); (case side4 => exact (Kd.R_reads' HO139.out).2.1); rintro e w37 ⟨rfl, hb⟩; refine ⟨_, rfl, ?_⟩; have n0_ := a_ (Kd.R_below (rl_ HO139.out) hb); have n1_ := a_ (below_step bl_ hb); clear HO139; clear HB; have HO139 := n0_; have HB := n1_; clear n0_ n1_; (try clear hb); (try clear hb2); (try clear hk); (try clear hi)))
  go_ret3
  exact ⟨_, by first | rfl | (simp [errW_none, errW_some] <;> rfl) | (simp [*, errW_none, errW_some] <;> rfl), by first | exact Kd.R_nil _ _ _ _ _ | exact Kd.N_nil _ _ _ _ _ | exact Kd.V_nil _ _ _ _ _ | exact Kd.Q_nil _ _ _ _ _ | exact Kd.S_nil _ _ _ _ _, bl_⟩
end Go.Proofs.YtgiihjcpgjpkcaaDoor.Q
