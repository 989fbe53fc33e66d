/- Contracts of functions that RefillDays reaches: each Go function as a plain Lean function and the proof that its call answers just so. -/
import Derived.Test.YtgiihjcpgjpkcaaDoorKQ0
import Derived.Test.YtgiihjcpgjpkcaaDoorKQA
import Derived.Test.YtgiihjcpgjpkcaaDoorKQE
namespace Go.Proofs.YtgiihjcpgjpkcaaDoor.Q
open Go.RowKit Go.Proofs.YtgiihjcpgjpkcaaDoorW.PrintWords Go.Proofs.YtgiihjcpgjpkcaaDoorW.PrintLast Go.Proofs.YtgiihjcpgjpkcaaDoorW.PrintMore
attribute [local go_sem] max2_int min2_int max_two min_two max_three min_three max_four min_four   -- for this text's walks alone
set_option linter.unusedVariables false
set_option linter.unusedSimpArgs false
attribute [local go_sem high] eqA49
mutual
def refill_Check.j0 : Nat → List (S51) → Bool → Option (Int)
 | 0, _, _ => none
 | k + 1, x0, x12 => if x12 = true then (some 40) else (refill_Check.l0 k x0 (x0.length : Int) 0)
def refill_Check.l0 : Nat → List (S51) → Int → Int → Option (Int)
 | 0, _, _, _ => none
 | k + 1, x13, x14, x15 => if x15 < x14 then (if 0 ≤ x15 then (if x15 < (x13.length : Int) then ((refill_within.f ((rd_T51 x13 x15).f0.f0) ((rd_T51 x13 x15).f0.f1) 0 524288).bind fun t121 => (if t121 = true then ((refill_unknown.f).bind fun bt122 => (if (!(((rd_T51 x13 x15).f1.f0) == bt122.1) || (!(((rd_T51 x13 x15).f1.f1) == bt122.2))) = true then ((refill_within.f ((rd_T51 x13 x15).f1.f0) ((rd_T51 x13 x15).f1.f1) 0 16777216).bind fun t124 => (if t124 = true then (refill_Check.l0 k x13 x14 (wrap64 (x15 + 1))) else (some 40))) else (refill_Check.l0 k x13 x14 (wrap64 (x15 + 1))))) else (some 40))) else (none)) else (none)) else (some 0)
end
def refill_Check.f (k : Nat) (l0 : List (S51)) : Option (Int) := if (l0.length : Int) < 1 then (refill_Check.j0 k l0 true) else (refill_Check.j0 k l0 (decide ((l0.length : Int) > 32)))
theorem refill_Check.mono_l : ∀ k, (∀ y0 y1, LeO (refill_Check.j0 k y0 y1) (refill_Check.j0 (k + 1) y0 y1)) ∧ (∀ y0 y1 y2, LeO (refill_Check.l0 k y0 y1 y2) (refill_Check.l0 (k + 1) y0 y1 y2))
 | 0 => ⟨fun _ _ r h => by simp [refill_Check.j0] at h, fun _ _ _ r h => by simp [refill_Check.l0] at h⟩
 | k + 1 => by
  obtain ⟨ih0, ih1⟩ := refill_Check.mono_l k
  refine ⟨?_, ?_⟩
  ·intro y0 y1
   unfold refill_Check.j0
   repeat' first
   | (with_reducible exact ih0 _ _)
   | (with_reducible exact ih1 _ _ _)
   | (with_reducible exact LeO.refl _)
   | (with_reducible exact LeO.none _)
   | (with_reducible refine LeO.ite ?_ ?_)
   | (with_reducible refine LeO.bind ?_ (fun _ => ?_))
   | exact ih0 _ _
   | exact ih1 _ _ _
   | exact LeO.none _
   | refine LeO.ite ?_ ?_
   | refine LeO.bind ?_ (fun _ => ?_)
  ·intro y0 y1 y2
   unfold refill_Check.l0
   repeat' first
   | (with_reducible exact ih0 _ _)
   | (with_reducible exact ih1 _ _ _)
   | (with_reducible exact LeO.refl _)
   | (with_reducible exact LeO.none _)
   | (with_reducible refine LeO.ite ?_ ?_)
   | (with_reducible refine LeO.bind ?_ (fun _ => ?_))
   | exact ih0 _ _
   | exact ih1 _ _ _
   | exact LeO.none _
   | refine LeO.ite ?_ ?_
   | refine LeO.bind ?_ (fun _ => ?_)
theorem refill_Check.mono : ∀ a0 k, LeO (refill_Check.f k a0) (refill_Check.f (k + 1) a0) := by
 intro a0 k
 obtain ⟨ih0, ih1⟩ := refill_Check.mono_l k
 unfold refill_Check.f
 repeat' first
   | (with_reducible exact ih0 _ _)
   | (with_reducible exact ih1 _ _ _)
   | (with_reducible exact LeO.refl _)
   | (with_reducible exact LeO.none _)
   | (with_reducible refine LeO.ite ?_ ?_)
   | (with_reducible refine LeO.bind ?_ (fun _ => ?_))
   | exact ih0 _ _
   | exact ih1 _ _ _
   | exact LeO.none _
   | refine LeO.ite ?_ ?_
   | refine LeO.bind ?_ (fun _ => ?_)
def refill_Check.T6 : Bool × List (List Nat × List Nat) := (true, [([], []), ([0], [0]), ([1], [1]), ([2], [2]), ([3, 2], [3]), ([4], [4]), ([5, 4], [4, 5]), ([4, 4], [4]), ([6, 7, 4], [4, 6, 7]), ([8, 7, 4], [4, 8]), ([9], [9]), ([10, 9], [9, 10]), ([11, 9, 9], [9, 11]), ([12, 9], [9, 12]), ([9, 13, 4], [4, 9, 13]), ([4, 14], [4, 14])])
def refill_Check.B6 : List Nat := [0, 1, 3, 7, 15, 31, 63, 31, 255, 511, 1023, 2047, 4095, 8191, 16383, 32767]
theorem refill_Check.tab6 : rtab .any (opsOf Tryd.f47 6) = refill_Check.T6 := by kernel_rfl
theorem refill_Check.bits6 : waitsOk refill_Check.T6.2 refill_Check.B6 = true := by kernel_rfl
set_option maxHeartbeats 8000000 in
set_option maxRecDepth 100000 in
theorem refill_Check.calls (k : Nat) (A0 : Option Addr) (c0 : Nat) (l0 : List (S51)) (r : Int) (w : World) (hr0 : Kd.C k51 w A0 l0.length l0) (hc0 : l0.length ≤ c0) (h : refill_Check.f k l0 = some r) :
  Calls Tryd.prog 47 #[.slice A0 l0.length c0] w fun e w' => e = .returned (.int .i64 r) ∧ Below w.heap.size w w' := by
 have hu51 := Tryd.underlying51
 have hu49 := Tryd.underlying49
 have HR0 := a_ hr0
 have HC0 := a_ hc0
 clear hr0 hc0
 have HB := a_ (Below.refl w.heap.size w)
 have H : (if (l0.length : Int) < 1 then (refill_Check.j0 k l0 true) else (refill_Check.j0 k l0 (decide ((l0.length : Int) > 32)))) = some r := h
 clear h
 have HC2 := a_ H
 clear H
 go_enter Tryd.func47, Tryd.ntmps47
 go_upto_region 1 with (fail)
 go_cut [12] (fun v12 wc => ∃ (kq : Nat) (x12_1 : Bool), v12 = .bool x12_1 ∧ Aside0 (refill_Check.j0 kq l0 x12_1 = some r) ∧ Aside0 (kq ≤ k) ∧ Aside0 (Below w.heap.size w wc))
 case first =>
  have H := HC2.out
  clear HC2
  by_cases c3 : (l0.length : Int) < 1
  ·rw [if_pos c3] at H
   have c3b0 : decide ((l0.length : Int) < 1) = true := decide_eq_true c3
   have c3b1 : decide (l0.length < 1) = true := decide_eq_true (by omega)
   clear c3
   (first | rw [c3b0] | (simp only [i64_w, i32_w]; rw [c3b0]) | skip)
   have H' := a_ H
   clear H
   go_wp2
   go_meet
   case rel => exact ⟨_, (true), (by first | rfl | (simp; done) | (simp [*]; done)), H', ⟨by first | omega | exact Nat.le_refl _⟩, ⟨bl_⟩⟩
  ·rw [if_neg c3] at H
   have c3b0 : decide ((l0.length : Int) < 1) = false := decide_eq_false c3
   have c3b1 : decide (l0.length < 1) = false := decide_eq_false (by omega)
   clear c3
   (first | rw [c3b0] | (simp only [i64_w, i32_w]; rw [c3b0]) | skip)
   have H' := a_ H
   clear H
   go_wp2
   go_meet
   case rel => exact ⟨_, (decide ((l0.length : Int) > 32)), (by first | rfl | (simp; done) | (simp [*]; done)), H', ⟨by first | omega | exact Nat.le_refl _⟩, ⟨bl_⟩⟩
 case rest =>
  clear HC2
  try clear p2
  try clear c3
  try clear c3b0
  try clear c3b1
  obtain ⟨kq, x12_1, rfl, HA, HJ1, HB⟩ := hcut
  cases kq with
  | zero => exact absurd HA.out (by simp [refill_Check.j0])
  | succ kj1 =>
   have H := HA.out
   clear HA
   simp only [refill_Check.j0] at H
   by_cases c4 : x12_1 = true
   ·subst c4
    have H1 : (some 40) = some r := by rw [if_pos rfl] at H; exact H
    clear H
    have H := H1
    clear H1
    obtain rfl := Option.some.inj H
    go_wp2
    go_ret
    exact ⟨by first | rfl | (simp [errW_none, errW_some] <;> rfl) | (simp [*, errW_none, errW_some] <;> rfl), bl_⟩
   ·replace c4 := Bool.eq_false_iff.mpr c4
    subst c4
    have H1 : (refill_Check.l0 kj1 l0 (l0.length : Int) 0) = some r := by rw [if_neg (show ¬ (false = true) by decide)] at H; exact H
    clear H
    have H := H1
    clear H1
    have H' := a_ H
    clear H
    go_wp2
    go_loopg [15] kj1 (fun kq v15 w' => ∃ (x15_2 : Int), v15 = .int .i64 x15_2 ∧ Aside0 (refill_Check.l0 kq l0 (l0.length : Int) x15_2 = some r) ∧ Aside0 (kq ≤ kj1) ∧ Aside0 (Below w.heap.size w w'))
    case atStart => exact ⟨(0), (by first | rfl | (simp; done) | (simp [*]; done)), H', ⟨Nat.le_refl _⟩, ⟨bl_⟩⟩
    case round =>
     clear H'
     try clear p2
     try clear c3
     try clear c3b0
     try clear c3b1
     try clear c4
     try clear p2
     obtain ⟨x15_2, rfl, HA, HK2, HB⟩ := hrel
     cases gk with
     | zero => exact absurd HA.out (by simp [refill_Check.l0])
     | succ k2 =>
      have H := HA.out
      clear HA
      simp only [refill_Check.l0] at H
      by_cases c5 : x15_2 < (l0.length : Int)
      ·rw [if_pos c5] at H
       have c5b0 : decide (x15_2 < (l0.length : Int)) = true := decide_eq_true c5
       clear c5
       by_cases c6 : 0 ≤ x15_2
       ·rw [if_pos c6] at H
        have c6b0 : decide (0 ≤ x15_2) = true := decide_eq_true c6
        clear c6
        by_cases c7 : x15_2 < (l0.length : Int)
        ·rw [if_pos c7] at H
         have c7b0 : decide (x15_2 < (l0.length : Int)) = true := decide_eq_true c7
         clear c7
         replace H := Option.bind_eq_some_iff.mp H
         obtain ⟨t121, A80, H⟩ := H
         replace H : (if t121 = true then ((refill_unknown.f).bind fun bt122 => (if (!(((rd_T51 l0 x15_2).f1.f0) == bt122.1) || (!(((rd_T51 l0 x15_2).f1.f1) == bt122.2))) = true then ((refill_within.f ((rd_T51 l0 x15_2).f1.f0) ((rd_T51 l0 x15_2).f1.f1) 0 16777216).bind fun t124 => (if t124 = true then (refill_Check.l0 k2 l0 (l0.length : Int) (wrap64 (x15_2 + 1))) else (some 40))) else (refill_Check.l0 k2 l0 (l0.length : Int) (wrap64 (x15_2 + 1))))) else (some 40)) = some r := H
         have A8 := a_ A80
         clear A80
         by_cases c9 : t121 = true
         ·subst c9
          have H1 : ((refill_unknown.f).bind fun bt122 => (if (!(((rd_T51 l0 x15_2).f1.f0) == bt122.1) || (!(((rd_T51 l0 x15_2).f1.f1) == bt122.2))) = true then ((refill_within.f ((rd_T51 l0 x15_2).f1.f0) ((rd_T51 l0 x15_2).f1.f1) 0 16777216).bind fun t124 => (if t124 = true then (refill_Check.l0 k2 l0 (l0.length : Int) (wrap64 (x15_2 + 1))) else (some 40))) else (refill_Check.l0 k2 l0 (l0.length : Int) (wrap64 (x15_2 + 1))))) = some r := by rw [if_pos rfl] at H; exact H
          clear H
          have H := H1
          clear H1
          replace H := Option.bind_eq_some_iff.mp H
          obtain ⟨⟨t122, t123⟩, A100, H⟩ := H
          replace H : (if (!(((rd_T51 l0 x15_2).f1.f0) == t122) || (!(((rd_T51 l0 x15_2).f1.f1) == t123))) = true then ((refill_within.f ((rd_T51 l0 x15_2).f1.f0) ((rd_T51 l0 x15_2).f1.f1) 0 16777216).bind fun t124 => (if t124 = true then (refill_Check.l0 k2 l0 (l0.length : Int) (wrap64 (x15_2 + 1))) else (some 40))) else (refill_Check.l0 k2 l0 (l0.length : Int) (wrap64 (x15_2 + 1)))) = some r := H
          have A10 := a_ A100
          clear A100
          by_cases c11 : (!(((rd_T51 l0 x15_2).f1.f0) == t122) || (!(((rd_T51 l0 x15_2).f1.f1) == t123))) = true
          ·rw [if_pos c11] at H
           have c11b0 : (!(((rd_T51 l0 x15_2).f1.f0) == t122) || (!(((rd_T51 l0 x15_2).f1.f1) == t123))) = true := c11
           clear c11
           replace H := Option.bind_eq_some_iff.mp H
           obtain ⟨t124, A120, H⟩ := H
           replace H : (if t124 = true then (refill_Check.l0 k2 l0 (l0.length : Int) (wrap64 (x15_2 + 1))) else (some 40)) = some r := H
           have A12 := a_ A120
           clear A120
           by_cases c13 : t124 = true
           ·subst c13
            have H1 : (refill_Check.l0 k2 l0 (l0.length : Int) (wrap64 (x15_2 + 1))) = some r := by rw [if_pos rfl] at H; exact H
            clear H
            have H := H1
            clear H1
            have H' := a_ H
            clear H
            have p119 : 0 ≤ (x15_2 : Int) := of_decide_eq_true (by first | (with_reducible assumption) | assumption)
            have q119 : x15_2 < (l0.length : Int) := of_decide_eq_true (by first | (with_reducible assumption) | assumption)
            obtain ⟨ad119, e119, hx119_0, hx119_1, hx119_2, hx119_3⟩ := at_T51 HR0.out x15_2 p119 q119
            cases e119
            replace hx119_0 := (HB.out.cell (World.block_lt_of_cell? w _ hx119_0)).trans hx119_0
            replace hx119_1 := (HB.out.cell (World.block_lt_of_cell? w _ hx119_1)).trans hx119_1
            replace hx119_2 := (HB.out.cell (World.block_lt_of_cell? w _ hx119_2)).trans hx119_2
            replace hx119_3 := (HB.out.cell (World.block_lt_of_cell? w _ hx119_3)).trans hx119_3
            replace p119 := eq_true p119
            replace q119 := eq_true q119
            try go_wp2_with (first | ((with_reducible refine gate_dst (N := 4) rfl ?_); (try (refine gate_guard (by rfl) ?_; dsimp only)); refine box_event ?hg (N := 4) ?hd (cs := #[.int .i64 0, .int .i64 0, .int .i64 0, .int .i64 0]) (t := 51) ?hr ?_; (case hd => rfl); (case hg => rfl); (case hr => first | (go_simp; done) | (go_simp; rfl)); intro gb120 hg w14 hbox hb; have n0_ := a_ (below_step bl_ hb); have n1_ := a_ (hbox); have n2_ := a_ ((bz_ (w := w) hg)); have n3_ := a_ ((bz_ (w := w) hg)); clear HB; have HB := n0_; have BK120 := n1_; have GW120 := n2_; have GE120 := n3_; clear n0_ n1_ n2_ n3_; clear hb hbox hg; have hcz15_0 : w14.cell? ⟨gb120, 0, none⟩ = some (.int .i64 0) := (blk_cell BK120.out 0).trans rfl; have hcz15_1 : w14.cell? ⟨gb120, 1, none⟩ = some (.int .i64 0) := (blk_cell BK120.out 1).trans rfl; have hcz15_2 : w14.cell? ⟨gb120, 2, none⟩ = some (.int .i64 0) := (blk_cell BK120.out 2).trans rfl; have hcz15_3 : w14.cell? ⟨gb120, 3, none⟩ = some (.int .i64 0) := (blk_cell BK120.out 3).trans rfl; have hfz15_0 := blk_frozen BK120.out 0; have hfz15_1 := blk_frozen BK120.out 1; have hfz15_2 := blk_frozen BK120.out 2; have hfz15_3 := blk_frozen BK120.out 3))
            have n0_ : Aside0 (((((w14.setCell ⟨gb120, 0, none⟩ (.int .i64 ((rd_T51 l0 x15_2).f0.f0))).setCell ⟨gb120, 1, none⟩ (.int .i64 ((rd_T51 l0 x15_2).f0.f1))).setCell ⟨gb120, 2, none⟩ (.int .i64 ((rd_T51 l0 x15_2).f1.f0))).setCell ⟨gb120, 3, none⟩ (.int .i64 ((rd_T51 l0 x15_2).f1.f1))).heap[gb120]? = some (.cells #[.int .i64 ((rd_T51 l0 x15_2).f0.f0), .int .i64 ((rd_T51 l0 x15_2).f0.f1), .int .i64 ((rd_T51 l0 x15_2).f1.f0), .int .i64 ((rd_T51 l0 x15_2).f1.f1)] 51 (0, 0))) := ⟨by (with_reducible repeat (first | refine blk_drewN ?_ _ | refine blk_drew ?_ | refine blk_alloc ?_ _)); refine blk_put (cs := #[.int .i64 ((rd_T51 l0 x15_2).f0.f0), .int .i64 ((rd_T51 l0 x15_2).f0.f1), .int .i64 ((rd_T51 l0 x15_2).f1.f0), .int .i64 0]) ?_ 3 _ rfl; (with_reducible repeat (first | refine blk_drewN ?_ _ | refine blk_drew ?_ | refine blk_alloc ?_ _)); refine blk_put (cs := #[.int .i64 ((rd_T51 l0 x15_2).f0.f0), .int .i64 ((rd_T51 l0 x15_2).f0.f1), .int .i64 0, .int .i64 0]) ?_ 2 _ rfl; (with_reducible repeat (first | refine blk_drewN ?_ _ | refine blk_drew ?_ | refine blk_alloc ?_ _)); refine blk_put (cs := #[.int .i64 ((rd_T51 l0 x15_2).f0.f0), .int .i64 0, .int .i64 0, .int .i64 0]) ?_ 1 _ rfl; (with_reducible repeat (first | refine blk_drewN ?_ _ | refine blk_drew ?_ | refine blk_alloc ?_ _)); refine blk_put (cs := #[.int .i64 0, .int .i64 0, .int .i64 0, .int .i64 0]) ?_ 0 _ rfl; (with_reducible repeat (first | refine blk_drewN ?_ _ | refine blk_drew ?_ | refine blk_alloc ?_ _)); exact BK120.out⟩
            have n1_ : Aside0 (Below w.heap.size w ((((w14.setCell ⟨gb120, 0, none⟩ (.int .i64 ((rd_T51 l0 x15_2).f0.f0))).setCell ⟨gb120, 1, none⟩ (.int .i64 ((rd_T51 l0 x15_2).f0.f1))).setCell ⟨gb120, 2, none⟩ (.int .i64 ((rd_T51 l0 x15_2).f1.f0))).setCell ⟨gb120, 3, none⟩ (.int .i64 ((rd_T51 l0 x15_2).f1.f1)))) := ⟨bl_⟩
            (try clear BK120)
            (try clear HB)
            generalize ((((w14.setCell ⟨gb120, 0, none⟩ (.int .i64 ((rd_T51 l0 x15_2).f0.f0))).setCell ⟨gb120, 1, none⟩ (.int .i64 ((rd_T51 l0 x15_2).f0.f1))).setCell ⟨gb120, 2, none⟩ (.int .i64 ((rd_T51 l0 x15_2).f1.f0))).setCell ⟨gb120, 3, none⟩ (.int .i64 ((rd_T51 l0 x15_2).f1.f1))) = w16 at n0_ n1_ ⊢
            have BK120 := n0_
            have HB := n1_
            clear n0_ n1_
            have n0_ := a_ (blk_drew BK120.out)
            have n1_ := a_ (below_drew1 HB.out)
            clear BK120
            clear HB
            have BK120 := n0_
            have HB := n1_
            clear n0_ n1_
            refine start_ (n := 16) (S := fun w' => w'.cell? ⟨gb120, 0, none⟩ = some (.int .i64 ((rd_T51 l0 x15_2).f0.f0)) ∧ w'.cell? ⟨gb120, 1, none⟩ = some (.int .i64 ((rd_T51 l0 x15_2).f0.f1)) ∧ w'.cell? ⟨gb120, 2, none⟩ = some (.int .i64 ((rd_T51 l0 x15_2).f1.f0)) ∧ w'.cell? ⟨gb120, 3, none⟩ = some (.int .i64 ((rd_T51 l0 x15_2).f1.f1))) (ds := []) #[false, false, false, false, false, false, false, false, false, false, false, false, false, false, false, false] (by kernel_rfl) rfl rfl ⟨(blk_cell BK120.out 0).trans rfl, (blk_cell BK120.out 1).trans rfl, (blk_cell BK120.out 2).trans rfl, (blk_cell BK120.out 3).trans rfl⟩ (fun hHeld => ?_); refine with_tabW refill_Check.tab6 refill_Check.bits6 (fun HT_ HW_ => ?_)
            generalize w16.drew = w17 at BK120 HB hHeld ⊢
            refine pz_ 0 19 HT_ ?_
            refine take_ (i := 1) (N := some 20) (v := ?_) (a' := ?_) #[true, true, false, false, false, false, false, false, false, false, false, false, false, false, false, false] rfl rfl (take_ofW HT_.out HW_.out (by kernel_rfl)) (fun _ _ _ h => h) (Or.inl ⟨by rfl, ?_⟩) hHeld ?_ ?_
            rotate_left
            ·rintro w' ⟨s0, s1, s2, s3⟩
             go_simp
             with_reducible rfl
            rotate_left
            ·simp only [Act.put, List.setIfInBounds_toArray, List.set_cons_zero, List.set_cons_succ, i64_w, i32_w]
             rfl
            refine one_ (i := 2) (N := some 21) #[true, true, true, false, false, false, false, false, false, false, false, false, false, false, false, false] rfl rfl (one_of HT_.out (by kernel_rfl)) (by decide) (fun K hK => ?_)
            refine goes_ Tryd.func89 (by kernel_rfl) rfl #[.agg #[.int .i64 ((rd_T51 l0 x15_2).f0.f0), .int .i64 ((rd_T51 l0 x15_2).f0.f1)], .int .i64 0, .int .i64 524288] (by rfl) rfl rfl tm_ ?_
            with_reducible refine (refill_within.calls ((rd_T51 l0 x15_2).f0.f0) ((rd_T51 l0 x15_2).f0.f1) 0 524288 true _ A8.out).mono ?_
            rintro e w18 ⟨rfl, hb⟩
            refine ⟨_, rfl, ?_⟩
            have n0_ := a_ (bb_ BK120.out hb)
            have n1_ := a_ (below_step bl_ hb)
            clear BK120
            clear HB
            have BK120 := n0_
            have HB := n1_
            clear n0_ n1_
            (try clear hb)
            (try clear hb2)
            (try clear hk)
            (try clear hi)
            refine hK.out _ _ ⟨(blk_cell BK120.out 0).trans rfl, (blk_cell BK120.out 1).trans rfl, (blk_cell BK120.out 2).trans rfl, (blk_cell BK120.out 3).trans rfl⟩ (fun hHeld => ?_)
            clear hK K
            refine norm_ (a' := ?_) ?_ ?_
            rotate_left
            ·show Act.put _ (some 21) _ = _
             simp only [Act.put, List.setIfInBounds_toArray, List.set_cons_zero, List.set_cons_succ, i64_w, i32_w]
             rfl
            refine pz_ 3 22 HT_ ?_
            refine pz_ 4 23 HT_ ?_
            refine pz_ 5 24 HT_ ?_
            refine take_ (i := 6) (N := some 25) (v := ?_) (a' := ?_) #[true, true, true, true, true, true, true, false, false, false, false, false, false, false, false, false] rfl rfl (take_ofW HT_.out HW_.out (by kernel_rfl)) (fun _ _ _ h => h) (Or.inl ⟨by rfl, ?_⟩) hHeld ?_ ?_
            rotate_left
            ·rintro w' ⟨s0, s1, s2, s3⟩
             go_simp
             with_reducible rfl
            rotate_left
            ·simp only [Act.put, List.setIfInBounds_toArray, List.set_cons_zero, List.set_cons_succ, i64_w, i32_w]
             rfl
            refine one_ (i := 7) (N := some 26) #[true, true, true, true, true, true, true, true, false, false, false, false, false, false, false, false] rfl rfl (one_of HT_.out (by kernel_rfl)) (by decide) (fun K hK => ?_)
            refine goes_ Tryd.func82 (by kernel_rfl) rfl #[] (by rfl) rfl rfl tm_ ?_
            with_reducible refine (refill_unknown.calls  t122 t123 _ A10.out).mono ?_
            rintro e w19 ⟨rfl, hb⟩
            refine ⟨_, rfl, ?_⟩
            have n0_ := a_ (bb_ BK120.out hb)
            have n1_ := a_ (below_step bl_ hb)
            clear BK120
            clear HB
            have BK120 := n0_
            have HB := n1_
            clear n0_ n1_
            (try clear hb)
            (try clear hb2)
            (try clear hk)
            (try clear hi)
            refine hK.out _ _ ⟨(blk_cell BK120.out 0).trans rfl, (blk_cell BK120.out 1).trans rfl, (blk_cell BK120.out 2).trans rfl, (blk_cell BK120.out 3).trans rfl⟩ (fun hHeld => ?_)
            clear hK K
            refine norm_ (a' := ?_) ?_ ?_
            rotate_left
            ·show Act.put _ (some 26) _ = _
             simp only [Act.put, List.setIfInBounds_toArray, List.set_cons_zero, List.set_cons_succ, i64_w, i32_w]
             rfl
            refine pz_ 8 27 HT_ ?_
            refine pz_ 9 28 HT_ ?_
            refine pz_ 10 29 HT_ ?_
            refine take_ (i := 11) (N := some 30) (v := ?_) (a' := ?_) #[true, true, true, true, true, true, true, true, true, true, true, true, false, false, false, false] rfl rfl (take_ofW HT_.out HW_.out (by kernel_rfl)) (fun _ _ _ h => h) (Or.inl ⟨by rfl, ?_⟩) hHeld ?_ ?_
            rotate_left
            ·rintro w' ⟨s0, s1, s2, s3⟩
             go_simp
             with_reducible rfl
            rotate_left
            ·simp only [Act.put, List.setIfInBounds_toArray, List.set_cons_zero, List.set_cons_succ, i64_w, i32_w]
             rfl
            refine one_ (i := 12) (N := some 31) #[true, true, true, true, true, true, true, true, true, true, true, true, true, false, false, false] rfl rfl (one_of HT_.out (by kernel_rfl)) (by decide) (fun K hK => ?_)
            refine goes_ Tryd.func89 (by kernel_rfl) rfl #[.agg #[.int .i64 ((rd_T51 l0 x15_2).f1.f0), .int .i64 ((rd_T51 l0 x15_2).f1.f1)], .int .i64 0, .int .i64 16777216] (by rfl) rfl rfl tm_ ?_
            with_reducible refine (refill_within.calls ((rd_T51 l0 x15_2).f1.f0) ((rd_T51 l0 x15_2).f1.f1) 0 16777216 true _ A12.out).mono ?_
            rintro e w20 ⟨rfl, hb⟩
            refine ⟨_, rfl, ?_⟩
            have n0_ := a_ (bb_ BK120.out hb)
            have n1_ := a_ (below_step bl_ hb)
            clear BK120
            clear HB
            have BK120 := n0_
            have HB := n1_
            clear n0_ n1_
            (try clear hb)
            (try clear hb2)
            (try clear hk)
            (try clear hi)
            refine hK.out _ _ ⟨(blk_cell BK120.out 0).trans rfl, (blk_cell BK120.out 1).trans rfl, (blk_cell BK120.out 2).trans rfl, (blk_cell BK120.out 3).trans rfl⟩ (fun hHeld => ?_)
            clear hK K
            refine norm_ (a' := ?_) ?_ ?_
            rotate_left
            ·show Act.put _ (some 31) _ = _
             simp only [Act.put, List.setIfInBounds_toArray, List.set_cons_zero, List.set_cons_succ, i64_w, i32_w]
             rfl
            refine pz_ 13 32 HT_ ?_
            refine pz_ 14 33 HT_ ?_
            refine pz_ 15 34 HT_ ?_
            refine done_ (done_of HT_.out (by kernel_rfl)) ?_
            try go_wp2
            go_roundg k2
            case measure => have := HJ1.out; have := HK2.out; omega
            case rel => exact ⟨(wrap64 (x15_2 + 1)), (by first | rfl | (simp; done) | (simp [*]; done)), H', ⟨by have := HJ1.out; have := HK2.out; omega⟩, ⟨bl_⟩⟩
           ·replace c13 := Bool.eq_false_iff.mpr c13
            subst c13
            have H1 : (some 40) = some r := by rw [if_neg (show ¬ (false = true) by decide)] at H; exact H
            clear H
            have H := H1
            clear H1
            obtain rfl := Option.some.inj H
            have p119 : 0 ≤ (x15_2 : Int) := of_decide_eq_true (by first | (with_reducible assumption) | assumption)
            have q119 : x15_2 < (l0.length : Int) := of_decide_eq_true (by first | (with_reducible assumption) | assumption)
            obtain ⟨ad119, e119, hx119_0, hx119_1, hx119_2, hx119_3⟩ := at_T51 HR0.out x15_2 p119 q119
            cases e119
            replace hx119_0 := (HB.out.cell (World.block_lt_of_cell? w _ hx119_0)).trans hx119_0
            replace hx119_1 := (HB.out.cell (World.block_lt_of_cell? w _ hx119_1)).trans hx119_1
            replace hx119_2 := (HB.out.cell (World.block_lt_of_cell? w _ hx119_2)).trans hx119_2
            replace hx119_3 := (HB.out.cell (World.block_lt_of_cell? w _ hx119_3)).trans hx119_3
            replace p119 := eq_true p119
            replace q119 := eq_true q119
            try go_wp2_with (first | ((with_reducible refine gate_dst (N := 4) rfl ?_); (try (refine gate_guard (by rfl) ?_; dsimp only)); refine box_event ?hg (N := 4) ?hd (cs := #[.int .i64 0, .int .i64 0, .int .i64 0, .int .i64 0]) (t := 51) ?hr ?_; (case hd => rfl); (case hg => rfl); (case hr => first | (go_simp; done) | (go_simp; rfl)); intro gb120 hg w21 hbox hb; have n0_ := a_ (below_step bl_ hb); have n1_ := a_ (hbox); have n2_ := a_ ((bz_ (w := w) hg)); have n3_ := a_ ((bz_ (w := w) hg)); clear HB; have HB := n0_; have BK120 := n1_; have GW120 := n2_; have GE120 := n3_; clear n0_ n1_ n2_ n3_; clear hb hbox hg; have hcz22_0 : w21.cell? ⟨gb120, 0, none⟩ = some (.int .i64 0) := (blk_cell BK120.out 0).trans rfl; have hcz22_1 : w21.cell? ⟨gb120, 1, none⟩ = some (.int .i64 0) := (blk_cell BK120.out 1).trans rfl; have hcz22_2 : w21.cell? ⟨gb120, 2, none⟩ = some (.int .i64 0) := (blk_cell BK120.out 2).trans rfl; have hcz22_3 : w21.cell? ⟨gb120, 3, none⟩ = some (.int .i64 0) := (blk_cell BK120.out 3).trans rfl; have hfz22_0 := blk_frozen BK120.out 0; have hfz22_1 := blk_frozen BK120.out 1; have hfz22_2 := blk_frozen BK120.out 2; have hfz22_3 := blk_frozen BK120.out 3))
            have n0_ : Aside0 (((((w21.setCell ⟨gb120, 0, none⟩ (.int .i64 ((rd_T51 l0 x15_2).f0.f0))).setCell ⟨gb120, 1, none⟩ (.int .i64 ((rd_T51 l0 x15_2).f0.f1))).setCell ⟨gb120, 2, none⟩ (.int .i64 ((rd_T51 l0 x15_2).f1.f0))).setCell ⟨gb120, 3, none⟩ (.int .i64 ((rd_T51 l0 x15_2).f1.f1))).heap[gb120]? = some (.cells #[.int .i64 ((rd_T51 l0 x15_2).f0.f0), .int .i64 ((rd_T51 l0 x15_2).f0.f1), .int .i64 ((rd_T51 l0 x15_2).f1.f0), .int .i64 ((rd_T51 l0 x15_2).f1.f1)] 51 (0, 0))) := ⟨by (with_reducible repeat (first | refine blk_drewN ?_ _ | refine blk_drew ?_ | refine blk_alloc ?_ _)); refine blk_put (cs := #[.int .i64 ((rd_T51 l0 x15_2).f0.f0), .int .i64 ((rd_T51 l0 x15_2).f0.f1), .int .i64 ((rd_T51 l0 x15_2).f1.f0), .int .i64 0]) ?_ 3 _ rfl; (with_reducible repeat (first | refine blk_drewN ?_ _ | refine blk_drew ?_ | refine blk_alloc ?_ _)); refine blk_put (cs := #[.int .i64 ((rd_T51 l0 x15_2).f0.f0), .int .i64 ((rd_T51 l0 x15_2).f0.f1), .int .i64 0, .int .i64 0]) ?_ 2 _ rfl; (with_reducible repeat (first | refine blk_drewN ?_ _ | refine blk_drew ?_ | refine blk_alloc ?_ _)); refine blk_put (cs := #[.int .i64 ((rd_T51 l0 x15_2).f0.f0), .int .i64 0, .int .i64 0, .int .i64 0]) ?_ 1 _ rfl; (with_reducible repeat (first | refine blk_drewN ?_ _ | refine blk_drew ?_ | refine blk_alloc ?_ _)); refine blk_put (cs := #[.int .i64 0, .int .i64 0, .int .i64 0, .int .i64 0]) ?_ 0 _ rfl; (with_reducible repeat (first | refine blk_drewN ?_ _ | refine blk_drew ?_ | refine blk_alloc ?_ _)); exact BK120.out⟩
            have n1_ : Aside0 (Below w.heap.size w ((((w21.setCell ⟨gb120, 0, none⟩ (.int .i64 ((rd_T51 l0 x15_2).f0.f0))).setCell ⟨gb120, 1, none⟩ (.int .i64 ((rd_T51 l0 x15_2).f0.f1))).setCell ⟨gb120, 2, none⟩ (.int .i64 ((rd_T51 l0 x15_2).f1.f0))).setCell ⟨gb120, 3, none⟩ (.int .i64 ((rd_T51 l0 x15_2).f1.f1)))) := ⟨bl_⟩
            (try clear BK120)
            (try clear HB)
            generalize ((((w21.setCell ⟨gb120, 0, none⟩ (.int .i64 ((rd_T51 l0 x15_2).f0.f0))).setCell ⟨gb120, 1, none⟩ (.int .i64 ((rd_T51 l0 x15_2).f0.f1))).setCell ⟨gb120, 2, none⟩ (.int .i64 ((rd_T51 l0 x15_2).f1.f0))).setCell ⟨gb120, 3, none⟩ (.int .i64 ((rd_T51 l0 x15_2).f1.f1))) = w23 at n0_ n1_ ⊢
            have BK120 := n0_
            have HB := n1_
            clear n0_ n1_
            have n0_ := a_ (blk_drew BK120.out)
            have n1_ := a_ (below_drew1 HB.out)
            clear BK120
            clear HB
            have BK120 := n0_
            have HB := n1_
            clear n0_ n1_
            refine start_ (n := 16) (S := fun w' => w'.cell? ⟨gb120, 0, none⟩ = some (.int .i64 ((rd_T51 l0 x15_2).f0.f0)) ∧ w'.cell? ⟨gb120, 1, none⟩ = some (.int .i64 ((rd_T51 l0 x15_2).f0.f1)) ∧ w'.cell? ⟨gb120, 2, none⟩ = some (.int .i64 ((rd_T51 l0 x15_2).f1.f0)) ∧ w'.cell? ⟨gb120, 3, none⟩ = some (.int .i64 ((rd_T51 l0 x15_2).f1.f1))) (ds := []) #[false, false, false, false, false, false, false, false, false, false, false, false, false, false, false, false] (by kernel_rfl) rfl rfl ⟨(blk_cell BK120.out 0).trans rfl, (blk_cell BK120.out 1).trans rfl, (blk_cell BK120.out 2).trans rfl, (blk_cell BK120.out 3).trans rfl⟩ (fun hHeld => ?_); refine with_tabW refill_Check.tab6 refill_Check.bits6 (fun HT_ HW_ => ?_)
            generalize w23.drew = w24 at BK120 HB hHeld ⊢
            refine pz_ 0 19 HT_ ?_
            refine take_ (i := 1) (N := some 20) (v := ?_) (a' := ?_) #[true, true, false, false, false, false, false, false, false, false, false, false, false, false, false, false] rfl rfl (take_ofW HT_.out HW_.out (by kernel_rfl)) (fun _ _ _ h => h) (Or.inl ⟨by rfl, ?_⟩) hHeld ?_ ?_
            rotate_left
            ·rintro w' ⟨s0, s1, s2, s3⟩
             go_simp
             with_reducible rfl
            rotate_left
            ·simp only [Act.put, List.setIfInBounds_toArray, List.set_cons_zero, List.set_cons_succ, i64_w, i32_w]
             rfl
            refine one_ (i := 2) (N := some 21) #[true, true, true, false, false, false, false, false, false, false, false, false, false, false, false, false] rfl rfl (one_of HT_.out (by kernel_rfl)) (by decide) (fun K hK => ?_)
            refine goes_ Tryd.func89 (by kernel_rfl) rfl #[.agg #[.int .i64 ((rd_T51 l0 x15_2).f0.f0), .int .i64 ((rd_T51 l0 x15_2).f0.f1)], .int .i64 0, .int .i64 524288] (by rfl) rfl rfl tm_ ?_
            with_reducible refine (refill_within.calls ((rd_T51 l0 x15_2).f0.f0) ((rd_T51 l0 x15_2).f0.f1) 0 524288 true _ A8.out).mono ?_
            rintro e w25 ⟨rfl, hb⟩
            refine ⟨_, rfl, ?_⟩
            have n0_ := a_ (bb_ BK120.out hb)
            have n1_ := a_ (below_step bl_ hb)
            clear BK120
            clear HB
            have BK120 := n0_
            have HB := n1_
            clear n0_ n1_
            (try clear hb)
            (try clear hb2)
            (try clear hk)
            (try clear hi)
            refine hK.out _ _ ⟨(blk_cell BK120.out 0).trans rfl, (blk_cell BK120.out 1).trans rfl, (blk_cell BK120.out 2).trans rfl, (blk_cell BK120.out 3).trans rfl⟩ (fun hHeld => ?_)
            clear hK K
            refine norm_ (a' := ?_) ?_ ?_
            rotate_left
            ·show Act.put _ (some 21) _ = _
             simp only [Act.put, List.setIfInBounds_toArray, List.set_cons_zero, List.set_cons_succ, i64_w, i32_w]
             rfl
            refine pz_ 3 22 HT_ ?_
            refine pz_ 4 23 HT_ ?_
            refine pz_ 5 24 HT_ ?_
            refine take_ (i := 6) (N := some 25) (v := ?_) (a' := ?_) #[true, true, true, true, true, true, true, false, false, false, false, false, false, false, false, false] rfl rfl (take_ofW HT_.out HW_.out (by kernel_rfl)) (fun _ _ _ h => h) (Or.inl ⟨by rfl, ?_⟩) hHeld ?_ ?_
            rotate_left
            ·rintro w' ⟨s0, s1, s2, s3⟩
             go_simp
             with_reducible rfl
            rotate_left
            ·simp only [Act.put, List.setIfInBounds_toArray, List.set_cons_zero, List.set_cons_succ, i64_w, i32_w]
             rfl
            refine one_ (i := 7) (N := some 26) #[true, true, true, true, true, true, true, true, false, false, false, false, false, false, false, false] rfl rfl (one_of HT_.out (by kernel_rfl)) (by decide) (fun K hK => ?_)
            refine goes_ Tryd.func82 (by kernel_rfl) rfl #[] (by rfl) rfl rfl tm_ ?_
            with_reducible refine (refill_unknown.calls  t122 t123 _ A10.out).mono ?_
            rintro e w26 ⟨rfl, hb⟩
            refine ⟨_, rfl, ?_⟩
            have n0_ := a_ (bb_ BK120.out hb)
            have n1_ := a_ (below_step bl_ hb)
            clear BK120
            clear HB
            have BK120 := n0_
            have HB := n1_
            clear n0_ n1_
            (try clear hb)
            (try clear hb2)
            (try clear hk)
            (try clear hi)
            refine hK.out _ _ ⟨(blk_cell BK120.out 0).trans rfl, (blk_cell BK120.out 1).trans rfl, (blk_cell BK120.out 2).trans rfl, (blk_cell BK120.out 3).trans rfl⟩ (fun hHeld => ?_)
            clear hK K
            refine norm_ (a' := ?_) ?_ ?_
            rotate_left
            ·show Act.put _ (some 26) _ = _
             simp only [Act.put, List.setIfInBounds_toArray, List.set_cons_zero, List.set_cons_succ, i64_w, i32_w]
             rfl
            refine pz_ 8 27 HT_ ?_
            refine pz_ 9 28 HT_ ?_
            refine pz_ 10 29 HT_ ?_
            refine take_ (i := 11) (N := some 30) (v := ?_) (a' := ?_) #[true, true, true, true, true, true, true, true, true, true, true, true, false, false, false, false] rfl rfl (take_ofW HT_.out HW_.out (by kernel_rfl)) (fun _ _ _ h => h) (Or.inl ⟨by rfl, ?_⟩) hHeld ?_ ?_
            rotate_left
            ·rintro w' ⟨s0, s1, s2, s3⟩
             go_simp
             with_reducible rfl
            rotate_left
            ·simp only [Act.put, List.setIfInBounds_toArray, List.set_cons_zero, List.set_cons_succ, i64_w, i32_w]
             rfl
            refine one_ (i := 12) (N := some 31) #[true, true, true, true, true, true, true, true, true, true, true, true, true, false, false, false] rfl rfl (one_of HT_.out (by kernel_rfl)) (by decide) (fun K hK => ?_)
            refine goes_ Tryd.func89 (by kernel_rfl) rfl #[.agg #[.int .i64 ((rd_T51 l0 x15_2).f1.f0), .int .i64 ((rd_T51 l0 x15_2).f1.f1)], .int .i64 0, .int .i64 16777216] (by rfl) rfl rfl tm_ ?_
            with_reducible refine (refill_within.calls ((rd_T51 l0 x15_2).f1.f0) ((rd_T51 l0 x15_2).f1.f1) 0 16777216 false _ A12.out).mono ?_
            rintro e w27 ⟨rfl, hb⟩
            refine ⟨_, rfl, ?_⟩
            have n0_ := a_ (bb_ BK120.out hb)
            have n1_ := a_ (below_step bl_ hb)
            clear BK120
            clear HB
            have BK120 := n0_
            have HB := n1_
            clear n0_ n1_
            (try clear hb)
            (try clear hb2)
            (try clear hk)
            (try clear hi)
            refine hK.out _ _ ⟨(blk_cell BK120.out 0).trans rfl, (blk_cell BK120.out 1).trans rfl, (blk_cell BK120.out 2).trans rfl, (blk_cell BK120.out 3).trans rfl⟩ (fun hHeld => ?_)
            clear hK K
            refine norm_ (a' := ?_) ?_ ?_
            rotate_left
            ·show Act.put _ (some 31) _ = _
             simp only [Act.put, List.setIfInBounds_toArray, List.set_cons_zero, List.set_cons_succ, i64_w, i32_w]
             rfl
            refine pz_ 13 32 HT_ ?_
            refine pz_ 14 33 HT_ ?_
            refine pz_ 15 34 HT_ ?_
            refine done_ (done_of HT_.out (by kernel_rfl)) ?_
            try go_wp2
            go_ret
            exact ⟨by first | rfl | (simp [errW_none, errW_some] <;> rfl) | (simp [*, errW_none, errW_some] <;> rfl), bl_⟩
          ·rw [if_neg c11] at H
           have c11b0 : (!(((rd_T51 l0 x15_2).f1.f0) == t122) || (!(((rd_T51 l0 x15_2).f1.f1) == t123))) = false := by simpa using c11
           clear c11
           have H' := a_ H
           clear H
           have p119 : 0 ≤ (x15_2 : Int) := of_decide_eq_true (by first | (with_reducible assumption) | assumption)
           have q119 : x15_2 < (l0.length : Int) := of_decide_eq_true (by first | (with_reducible assumption) | assumption)
           obtain ⟨ad119, e119, hx119_0, hx119_1, hx119_2, hx119_3⟩ := at_T51 HR0.out x15_2 p119 q119
           cases e119
           replace hx119_0 := (HB.out.cell (World.block_lt_of_cell? w _ hx119_0)).trans hx119_0
           replace hx119_1 := (HB.out.cell (World.block_lt_of_cell? w _ hx119_1)).trans hx119_1
           replace hx119_2 := (HB.out.cell (World.block_lt_of_cell? w _ hx119_2)).trans hx119_2
           replace hx119_3 := (HB.out.cell (World.block_lt_of_cell? w _ hx119_3)).trans hx119_3
           replace p119 := eq_true p119
           replace q119 := eq_true q119
           try go_wp2_with (first | ((with_reducible refine gate_dst (N := 4) rfl ?_); (try (refine gate_guard (by rfl) ?_; dsimp only)); refine box_event ?hg (N := 4) ?hd (cs := #[.int .i64 0, .int .i64 0, .int .i64 0, .int .i64 0]) (t := 51) ?hr ?_; (case hd => rfl); (case hg => rfl); (case hr => first | (go_simp; done) | (go_simp; rfl)); intro gb120 hg w28 hbox hb; have n0_ := a_ (below_step bl_ hb); have n1_ := a_ (hbox); have n2_ := a_ ((bz_ (w := w) hg)); have n3_ := a_ ((bz_ (w := w) hg)); clear HB; have HB := n0_; have BK120 := n1_; have GW120 := n2_; have GE120 := n3_; clear n0_ n1_ n2_ n3_; clear hb hbox hg; have hcz29_0 : w28.cell? ⟨gb120, 0, none⟩ = some (.int .i64 0) := (blk_cell BK120.out 0).trans rfl; have hcz29_1 : w28.cell? ⟨gb120, 1, none⟩ = some (.int .i64 0) := (blk_cell BK120.out 1).trans rfl; have hcz29_2 : w28.cell? ⟨gb120, 2, none⟩ = some (.int .i64 0) := (blk_cell BK120.out 2).trans rfl; have hcz29_3 : w28.cell? ⟨gb120, 3, none⟩ = some (.int .i64 0) := (blk_cell BK120.out 3).trans rfl; have hfz29_0 := blk_frozen BK120.out 0; have hfz29_1 := blk_frozen BK120.out 1; have hfz29_2 := blk_frozen BK120.out 2; have hfz29_3 := blk_frozen BK120.out 3))
           have n0_ : Aside0 (((((w28.setCell ⟨gb120, 0, none⟩ (.int .i64 ((rd_T51 l0 x15_2).f0.f0))).setCell ⟨gb120, 1, none⟩ (.int .i64 ((rd_T51 l0 x15_2).f0.f1))).setCell ⟨gb120, 2, none⟩ (.int .i64 ((rd_T51 l0 x15_2).f1.f0))).setCell ⟨gb120, 3, none⟩ (.int .i64 ((rd_T51 l0 x15_2).f1.f1))).heap[gb120]? = some (.cells #[.int .i64 ((rd_T51 l0 x15_2).f0.f0), .int .i64 ((rd_T51 l0 x15_2).f0.f1), .int .i64 ((rd_T51 l0 x15_2).f1.f0), .int .i64 ((rd_T51 l0 x15_2).f1.f1)] 51 (0, 0))) := ⟨by (with_reducible repeat (first | refine blk_drewN ?_ _ | refine blk_drew ?_ | refine blk_alloc ?_ _)); refine blk_put (cs := #[.int .i64 ((rd_T51 l0 x15_2).f0.f0), .int .i64 ((rd_T51 l0 x15_2).f0.f1), .int .i64 ((rd_T51 l0 x15_2).f1.f0), .int .i64 0]) ?_ 3 _ rfl; (with_reducible repeat (first | refine blk_drewN ?_ _ | refine blk_drew ?_ | refine blk_alloc ?_ _)); refine blk_put (cs := #[.int .i64 ((rd_T51 l0 x15_2).f0.f0), .int .i64 ((rd_T51 l0 x15_2).f0.f1), .int .i64 0, .int .i64 0]) ?_ 2 _ rfl; (with_reducible repeat (first | refine blk_drewN ?_ _ | refine blk_drew ?_ | refine blk_alloc ?_ _)); refine blk_put (cs := #[.int .i64 ((rd_T51 l0 x15_2).f0.f0), .int .i64 0, .int .i64 0, .int .i64 0]) ?_ 1 _ rfl; (with_reducible repeat (first | refine blk_drewN ?_ _ | refine blk_drew ?_ | refine blk_alloc ?_ _)); refine blk_put (cs := #[.int .i64 0, .int .i64 0, .int .i64 0, .int .i64 0]) ?_ 0 _ rfl; (with_reducible repeat (first | refine blk_drewN ?_ _ | refine blk_drew ?_ | refine blk_alloc ?_ _)); exact BK120.out⟩
           have n1_ : Aside0 (Below w.heap.size w ((((w28.setCell ⟨gb120, 0, none⟩ (.int .i64 ((rd_T51 l0 x15_2).f0.f0))).setCell ⟨gb120, 1, none⟩ (.int .i64 ((rd_T51 l0 x15_2).f0.f1))).setCell ⟨gb120, 2, none⟩ (.int .i64 ((rd_T51 l0 x15_2).f1.f0))).setCell ⟨gb120, 3, none⟩ (.int .i64 ((rd_T51 l0 x15_2).f1.f1)))) := ⟨bl_⟩
           (try clear BK120)
           (try clear HB)
           generalize ((((w28.setCell ⟨gb120, 0, none⟩ (.int .i64 ((rd_T51 l0 x15_2).f0.f0))).setCell ⟨gb120, 1, none⟩ (.int .i64 ((rd_T51 l0 x15_2).f0.f1))).setCell ⟨gb120, 2, none⟩ (.int .i64 ((rd_T51 l0 x15_2).f1.f0))).setCell ⟨gb120, 3, none⟩ (.int .i64 ((rd_T51 l0 x15_2).f1.f1))) = w30 at n0_ n1_ ⊢
           have BK120 := n0_
           have HB := n1_
           clear n0_ n1_
           have n0_ := a_ (blk_drew BK120.out)
           have n1_ := a_ (below_drew1 HB.out)
           clear BK120
           clear HB
           have BK120 := n0_
           have HB := n1_
           clear n0_ n1_
           refine start_ (n := 16) (S := fun w' => w'.cell? ⟨gb120, 0, none⟩ = some (.int .i64 ((rd_T51 l0 x15_2).f0.f0)) ∧ w'.cell? ⟨gb120, 1, none⟩ = some (.int .i64 ((rd_T51 l0 x15_2).f0.f1)) ∧ w'.cell? ⟨gb120, 2, none⟩ = some (.int .i64 ((rd_T51 l0 x15_2).f1.f0)) ∧ w'.cell? ⟨gb120, 3, none⟩ = some (.int .i64 ((rd_T51 l0 x15_2).f1.f1))) (ds := []) #[false, false, false, false, false, false, false, false, false, false, false, false, false, false, false, false] (by kernel_rfl) rfl rfl ⟨(blk_cell BK120.out 0).trans rfl, (blk_cell BK120.out 1).trans rfl, (blk_cell BK120.out 2).trans rfl, (blk_cell BK120.out 3).trans rfl⟩ (fun hHeld => ?_); refine with_tabW refill_Check.tab6 refill_Check.bits6 (fun HT_ HW_ => ?_)
           generalize w30.drew = w31 at BK120 HB hHeld ⊢
           refine pz_ 0 19 HT_ ?_
           refine take_ (i := 1) (N := some 20) (v := ?_) (a' := ?_) #[true, true, false, false, false, false, false, false, false, false, false, false, false, false, false, false] rfl rfl (take_ofW HT_.out HW_.out (by kernel_rfl)) (fun _ _ _ h => h) (Or.inl ⟨by rfl, ?_⟩) hHeld ?_ ?_
           rotate_left
           ·rintro w' ⟨s0, s1, s2, s3⟩
            go_simp
            with_reducible rfl
           rotate_left
           ·simp only [Act.put, List.setIfInBounds_toArray, List.set_cons_zero, List.set_cons_succ, i64_w, i32_w]
            rfl
           refine one_ (i := 2) (N := some 21) #[true, true, true, false, false, false, false, false, false, false, false, false, false, false, false, false] rfl rfl (one_of HT_.out (by kernel_rfl)) (by decide) (fun K hK => ?_)
           refine goes_ Tryd.func89 (by kernel_rfl) rfl #[.agg #[.int .i64 ((rd_T51 l0 x15_2).f0.f0), .int .i64 ((rd_T51 l0 x15_2).f0.f1)], .int .i64 0, .int .i64 524288] (by rfl) rfl rfl tm_ ?_
           with_reducible refine (refill_within.calls ((rd_T51 l0 x15_2).f0.f0) ((rd_T51 l0 x15_2).f0.f1) 0 524288 true _ A8.out).mono ?_
           rintro e w32 ⟨rfl, hb⟩
           refine ⟨_, rfl, ?_⟩
           have n0_ := a_ (bb_ BK120.out hb)
           have n1_ := a_ (below_step bl_ hb)
           clear BK120
           clear HB
           have BK120 := n0_
           have HB := n1_
           clear n0_ n1_
           (try clear hb)
           (try clear hb2)
           (try clear hk)
           (try clear hi)
           refine hK.out _ _ ⟨(blk_cell BK120.out 0).trans rfl, (blk_cell BK120.out 1).trans rfl, (blk_cell BK120.out 2).trans rfl, (blk_cell BK120.out 3).trans rfl⟩ (fun hHeld => ?_)
           clear hK K
           refine norm_ (a' := ?_) ?_ ?_
           rotate_left
           ·show Act.put _ (some 21) _ = _
            simp only [Act.put, List.setIfInBounds_toArray, List.set_cons_zero, List.set_cons_succ, i64_w, i32_w]
            rfl
           refine pz_ 3 22 HT_ ?_
           refine pz_ 4 23 HT_ ?_
           refine pz_ 5 24 HT_ ?_
           refine take_ (i := 6) (N := some 25) (v := ?_) (a' := ?_) #[true, true, true, true, true, true, true, false, false, false, false, false, false, false, false, false] rfl rfl (take_ofW HT_.out HW_.out (by kernel_rfl)) (fun _ _ _ h => h) (Or.inl ⟨by rfl, ?_⟩) hHeld ?_ ?_
           rotate_left
           ·rintro w' ⟨s0, s1, s2, s3⟩
            go_simp
            with_reducible rfl
           rotate_left
           ·simp only [Act.put, List.setIfInBounds_toArray, List.set_cons_zero, List.set_cons_succ, i64_w, i32_w]
            rfl
           refine one_ (i := 7) (N := some 26) #[true, true, true, true, true, true, true, true, false, false, false, false, false, false, false, false] rfl rfl (one_of HT_.out (by kernel_rfl)) (by decide) (fun K hK => ?_)
           refine goes_ Tryd.func82 (by kernel_rfl) rfl #[] (by rfl) rfl rfl tm_ ?_
           with_reducible refine (refill_unknown.calls  t122 t123 _ A10.out).mono ?_
           rintro e w33 ⟨rfl, hb⟩
           refine ⟨_, rfl, ?_⟩
           have n0_ := a_ (bb_ BK120.out hb)
           have n1_ := a_ (below_step bl_ hb)
           clear BK120
           clear HB
           have BK120 := n0_
           have HB := n1_
           clear n0_ n1_
           (try clear hb)
           (try clear hb2)
           (try clear hk)
           (try clear hi)
           refine hK.out _ _ ⟨(blk_cell BK120.out 0).trans rfl, (blk_cell BK120.out 1).trans rfl, (blk_cell BK120.out 2).trans rfl, (blk_cell BK120.out 3).trans rfl⟩ (fun hHeld => ?_)
           clear hK K
           refine norm_ (a' := ?_) ?_ ?_
           rotate_left
           ·show Act.put _ (some 26) _ = _
            simp only [Act.put, List.setIfInBounds_toArray, List.set_cons_zero, List.set_cons_succ, i64_w, i32_w]
            rfl
           refine pz_ 8 27 HT_ ?_
           refine pz_ 9 28 HT_ ?_
           refine pu_ 10 29 HT_ ?_
           refine pu_ 11 30 HT_ ?_
           refine pu_ 12 31 HT_ ?_
           refine pu_ 13 32 HT_ ?_
           refine pz_ 14 33 HT_ ?_
           refine pz_ 15 34 HT_ ?_
           refine done_ (done_of HT_.out (by kernel_rfl)) ?_
           try go_wp2
           go_roundg k2
           case measure => have := HJ1.out; have := HK2.out; omega
           case rel => exact ⟨(wrap64 (x15_2 + 1)), (by first | rfl | (simp; done) | (simp [*]; done)), H', ⟨by have := HJ1.out; have := HK2.out; omega⟩, ⟨bl_⟩⟩
         ·replace c9 := Bool.eq_false_iff.mpr c9
          subst c9
          have H1 : (some 40) = some r := by rw [if_neg (show ¬ (false = true) by decide)] at H; exact H
          clear H
          have H := H1
          clear H1
          obtain rfl := Option.some.inj H
          have p119 : 0 ≤ (x15_2 : Int) := of_decide_eq_true (by first | (with_reducible assumption) | assumption)
          have q119 : x15_2 < (l0.length : Int) := of_decide_eq_true (by first | (with_reducible assumption) | assumption)
          obtain ⟨ad119, e119, hx119_0, hx119_1, hx119_2, hx119_3⟩ := at_T51 HR0.out x15_2 p119 q119
          cases e119
          replace hx119_0 := (HB.out.cell (World.block_lt_of_cell? w _ hx119_0)).trans hx119_0
          replace hx119_1 := (HB.out.cell (World.block_lt_of_cell? w _ hx119_1)).trans hx119_1
          replace hx119_2 := (HB.out.cell (World.block_lt_of_cell? w _ hx119_2)).trans hx119_2
          replace hx119_3 := (HB.out.cell (World.block_lt_of_cell? w _ hx119_3)).trans hx119_3
          replace p119 := eq_true p119
          replace q119 := eq_true q119
          try go_wp2_with (first | ((with_reducible refine gate_dst (N := 4) rfl ?_); (try (refine gate_guard (by rfl) ?_; dsimp only)); refine box_event ?hg (N := 4) ?hd (cs := #[.int .i64 0, .int .i64 0, .int .i64 0, .int .i64 0]) (t := 51) ?hr ?_; (case hd => rfl); (case hg => rfl); (case hr => first | (go_simp; done) | (go_simp; rfl)); intro gb120 hg w34 hbox hb; have n0_ := a_ (below_step bl_ hb); have n1_ := a_ (hbox); have n2_ := a_ ((bz_ (w := w) hg)); have n3_ := a_ ((bz_ (w := w) hg)); clear HB; have HB := n0_; have BK120 := n1_; have GW120 := n2_; have GE120 := n3_; clear n0_ n1_ n2_ n3_; clear hb hbox hg; have hcz35_0 : w34.cell? ⟨gb120, 0, none⟩ = some (.int .i64 0) := (blk_cell BK120.out 0).trans rfl; have hcz35_1 : w34.cell? ⟨gb120, 1, none⟩ = some (.int .i64 0) := (blk_cell BK120.out 1).trans rfl; have hcz35_2 : w34.cell? ⟨gb120, 2, none⟩ = some (.int .i64 0) := (blk_cell BK120.out 2).trans rfl; have hcz35_3 : w34.cell? ⟨gb120, 3, none⟩ = some (.int .i64 0) := (blk_cell BK120.out 3).trans rfl; have hfz35_0 := blk_frozen BK120.out 0; have hfz35_1 := blk_frozen BK120.out 1; have hfz35_2 := blk_frozen BK120.out 2; have hfz35_3 := blk_frozen BK120.out 3))
          have n0_ : Aside0 (((((w34.setCell ⟨gb120, 0, none⟩ (.int .i64 ((rd_T51 l0 x15_2).f0.f0))).setCell ⟨gb120, 1, none⟩ (.int .i64 ((rd_T51 l0 x15_2).f0.f1))).setCell ⟨gb120, 2, none⟩ (.int .i64 ((rd_T51 l0 x15_2).f1.f0))).setCell ⟨gb120, 3, none⟩ (.int .i64 ((rd_T51 l0 x15_2).f1.f1))).heap[gb120]? = some (.cells #[.int .i64 ((rd_T51 l0 x15_2).f0.f0), .int .i64 ((rd_T51 l0 x15_2).f0.f1), .int .i64 ((rd_T51 l0 x15_2).f1.f0), .int .i64 ((rd_T51 l0 x15_2).f1.f1)] 51 (0, 0))) := ⟨by (with_reducible repeat (first | refine blk_drewN ?_ _ | refine blk_drew ?_ | refine blk_alloc ?_ _)); refine blk_put (cs := #[.int .i64 ((rd_T51 l0 x15_2).f0.f0), .int .i64 ((rd_T51 l0 x15_2).f0.f1), .int .i64 ((rd_T51 l0 x15_2).f1.f0), .int .i64 0]) ?_ 3 _ rfl; (with_reducible repeat (first | refine blk_drewN ?_ _ | refine blk_drew ?_ | refine blk_alloc ?_ _)); refine blk_put (cs := #[.int .i64 ((rd_T51 l0 x15_2).f0.f0), .int .i64 ((rd_T51 l0 x15_2).f0.f1), .int .i64 0, .int .i64 0]) ?_ 2 _ rfl; (with_reducible repeat (first | refine blk_drewN ?_ _ | refine blk_drew ?_ | refine blk_alloc ?_ _)); refine blk_put (cs := #[.int .i64 ((rd_T51 l0 x15_2).f0.f0), .int .i64 0, .int .i64 0, .int .i64 0]) ?_ 1 _ rfl; (with_reducible repeat (first | refine blk_drewN ?_ _ | refine blk_drew ?_ | refine blk_alloc ?_ _)); refine blk_put (cs := #[.int .i64 0, .int .i64 0, .int .i64 0, .int .i64 0]) ?_ 0 _ rfl; (with_reducible repeat (first | refine blk_drewN ?_ _ | refine blk_drew ?_ | refine blk_alloc ?_ _)); exact BK120.out⟩
          have n1_ : Aside0 (Below w.heap.size w ((((w34.setCell ⟨gb120, 0, none⟩ (.int .i64 ((rd_T51 l0 x15_2).f0.f0))).setCell ⟨gb120, 1, none⟩ (.int .i64 ((rd_T51 l0 x15_2).f0.f1))).setCell ⟨gb120, 2, none⟩ (.int .i64 ((rd_T51 l0 x15_2).f1.f0))).setCell ⟨gb120, 3, none⟩ (.int .i64 ((rd_T51 l0 x15_2).f1.f1)))) := ⟨bl_⟩
          (try clear BK120)
          (try clear HB)
          generalize ((((w34.setCell ⟨gb120, 0, none⟩ (.int .i64 ((rd_T51 l0 x15_2).f0.f0))).setCell ⟨gb120, 1, none⟩ (.int .i64 ((rd_T51 l0 x15_2).f0.f1))).setCell ⟨gb120, 2, none⟩ (.int .i64 ((rd_T51 l0 x15_2).f1.f0))).setCell ⟨gb120, 3, none⟩ (.int .i64 ((rd_T51 l0 x15_2).f1.f1))) = w36 at n0_ n1_ ⊢
          have BK120 := n0_
          have HB := n1_
          clear n0_ n1_
          have n0_ := a_ (blk_drew BK120.out)
          have n1_ := a_ (below_drew1 HB.out)
          clear BK120
          clear HB
          have BK120 := n0_
          have HB := n1_
          clear n0_ n1_
          refine start_ (n := 16) (S := fun w' => w'.cell? ⟨gb120, 0, none⟩ = some (.int .i64 ((rd_T51 l0 x15_2).f0.f0)) ∧ w'.cell? ⟨gb120, 1, none⟩ = some (.int .i64 ((rd_T51 l0 x15_2).f0.f1)) ∧ w'.cell? ⟨gb120, 2, none⟩ = some (.int .i64 ((rd_T51 l0 x15_2).f1.f0)) ∧ w'.cell? ⟨gb120, 3, none⟩ = some (.int .i64 ((rd_T51 l0 x15_2).f1.f1))) (ds := []) #[false, false, false, false, false, false, false, false, false, false, false, false, false, false, false, false] (by kernel_rfl) rfl rfl ⟨(blk_cell BK120.out 0).trans rfl, (blk_cell BK120.out 1).trans rfl, (blk_cell BK120.out 2).trans rfl, (blk_cell BK120.out 3).trans rfl⟩ (fun hHeld => ?_); refine with_tabW refill_Check.tab6 refill_Check.bits6 (fun HT_ HW_ => ?_)
          generalize w36.drew = w37 at BK120 HB hHeld ⊢
          refine pz_ 0 19 HT_ ?_
          refine take_ (i := 1) (N := some 20) (v := ?_) (a' := ?_) #[true, true, false, false, false, false, false, false, false, false, false, false, false, false, false, false] rfl rfl (take_ofW HT_.out HW_.out (by kernel_rfl)) (fun _ _ _ h => h) (Or.inl ⟨by rfl, ?_⟩) hHeld ?_ ?_
          rotate_left
          ·rintro w' ⟨s0, s1, s2, s3⟩
           go_simp
           with_reducible rfl
          rotate_left
          ·simp only [Act.put, List.setIfInBounds_toArray, List.set_cons_zero, List.set_cons_succ, i64_w, i32_w]
           rfl
          refine one_ (i := 2) (N := some 21) #[true, true, true, false, false, false, false, false, false, false, false, false, false, false, false, false] rfl rfl (one_of HT_.out (by kernel_rfl)) (by decide) (fun K hK => ?_)
          refine goes_ Tryd.func89 (by kernel_rfl) rfl #[.agg #[.int .i64 ((rd_T51 l0 x15_2).f0.f0), .int .i64 ((rd_T51 l0 x15_2).f0.f1)], .int .i64 0, .int .i64 524288] (by rfl) rfl rfl tm_ ?_
          with_reducible refine (refill_within.calls ((rd_T51 l0 x15_2).f0.f0) ((rd_T51 l0 x15_2).f0.f1) 0 524288 false _ A8.out).mono ?_
          rintro e w38 ⟨rfl, hb⟩
          refine ⟨_, rfl, ?_⟩
          have n0_ := a_ (bb_ BK120.out hb)
          have n1_ := a_ (below_step bl_ hb)
          clear BK120
          clear HB
          have BK120 := n0_
          have HB := n1_
          clear n0_ n1_
          (try clear hb)
          (try clear hb2)
          (try clear hk)
          (try clear hi)
          refine hK.out _ _ ⟨(blk_cell BK120.out 0).trans rfl, (blk_cell BK120.out 1).trans rfl, (blk_cell BK120.out 2).trans rfl, (blk_cell BK120.out 3).trans rfl⟩ (fun hHeld => ?_)
          clear hK K
          refine norm_ (a' := ?_) ?_ ?_
          rotate_left
          ·show Act.put _ (some 21) _ = _
           simp only [Act.put, List.setIfInBounds_toArray, List.set_cons_zero, List.set_cons_succ, i64_w, i32_w]
           rfl
          refine pz_ 3 22 HT_ ?_
          refine pz_ 4 23 HT_ ?_
          refine pu_ 5 24 HT_ ?_
          refine pu_ 6 25 HT_ ?_
          refine pu_ 7 26 HT_ ?_
          refine pu_ 8 27 HT_ ?_
          refine pu_ 9 28 HT_ ?_
          refine pu_ 10 29 HT_ ?_
          refine pu_ 11 30 HT_ ?_
          refine pu_ 12 31 HT_ ?_
          refine pu_ 13 32 HT_ ?_
          refine pu_ 14 33 HT_ ?_
          refine pz_ 15 34 HT_ ?_
          refine done_ (done_of HT_.out (by kernel_rfl)) ?_
          try go_wp2
          go_ret
          exact ⟨by first | rfl | (simp [errW_none, errW_some] <;> rfl) | (simp [*, errW_none, errW_some] <;> rfl), bl_⟩
        ·rw [if_neg c7] at H
         exact absurd H (by simp)
       ·rw [if_neg c6] at H
        exact absurd H (by simp)
      ·rw [if_neg c5] at H
       have c5b0 : decide (x15_2 < (l0.length : Int)) = false := decide_eq_false c5
       clear c5
       obtain rfl := Option.some.inj H
       go_wp2
       go_ret
       exact ⟨by first | rfl | (simp [errW_none, errW_some] <;> rfl) | (simp [*, errW_none, errW_some] <;> rfl), bl_⟩
def refill_event.l0 : Nat → List (S51) → Int → List Int → Int → Int → Option (Int)
 | 0, _, _, _, _, _ => none
 | k + 1, x0, x1, x15, x16, x17 => if x17 < x16 then (if 0 ≤ x17 then (if x17 < (x15.length : Int) then (if (rd x15 x17) < x1 then (some 1) else (if (rd x15 x17) ≥ (x0.length : Int) then (some 1) else (refill_event.l0 k x0 x1 x15 x16 (wrap64 (x17 + 1))))) else (none)) else (none)) else (some 0)
def refill_event.f (k : Nat) (l0 : List (S51)) (a1 : Int) (l2 : List Int) : Option (Int) := (refill_Check.f k l0).bind fun t125 => (if t125 = 0 then (refill_event.l0 k l0 a1 l2 (l2.length : Int) 0) else (some t125))
theorem refill_event.mono_l : ∀ k, (∀ y0 y1 y2 y3 y4, LeO (refill_event.l0 k y0 y1 y2 y3 y4) (refill_event.l0 (k + 1) y0 y1 y2 y3 y4))
 | 0 => fun _ _ _ _ _ r h => by simp [refill_event.l0] at h
 | k + 1 => by
  have ih0 := refill_event.mono_l k
  ·intro y0 y1 y2 y3 y4
   unfold refill_event.l0
   repeat' first
   | (with_reducible exact ih0 _ _ _ _ _)
   | (with_reducible exact refill_Check.mono _ _)
   | (with_reducible exact LeO.refl _)
   | (with_reducible exact LeO.none _)
   | (with_reducible refine LeO.ite ?_ ?_)
   | (with_reducible refine LeO.bind ?_ (fun _ => ?_))
   | exact ih0 _ _ _ _ _
   | exact refill_Check.mono _ _
   | exact LeO.none _
   | refine LeO.ite ?_ ?_
   | refine LeO.bind ?_ (fun _ => ?_)
theorem refill_event.mono : ∀ a0 a1 a2 k, LeO (refill_event.f k a0 a1 a2) (refill_event.f (k + 1) a0 a1 a2) := by
 intro a0 a1 a2 k
 have ih0 := refill_event.mono_l k
 unfold refill_event.f
 repeat' first
   | (with_reducible exact ih0 _ _ _ _ _)
   | (with_reducible exact refill_Check.mono _ _)
   | (with_reducible exact LeO.refl _)
   | (with_reducible exact LeO.none _)
   | (with_reducible refine LeO.ite ?_ ?_)
   | (with_reducible refine LeO.bind ?_ (fun _ => ?_))
   | exact ih0 _ _ _ _ _
   | exact refill_Check.mono _ _
   | exact LeO.none _
   | refine LeO.ite ?_ ?_
   | refine LeO.bind ?_ (fun _ => ?_)
set_option maxHeartbeats 8000000 in
set_option maxRecDepth 100000 in
theorem refill_event.calls (k : Nat) (A0 : Option Addr) (c0 : Nat) (l0 : List (S51)) (a1 : Int) (A2 : Option Addr) (c2 : Nat) (l2 : List Int) (r : Int) (w : World) (hr0 : Kd.C k51 w A0 l0.length l0) (hc0 : l0.length ≤ c0) (hr2 : Kd.C (Kd.int .i64) w A2 l2.length l2) (hc2 : l2.length ≤ c2) (h : refill_event.f k l0 a1 l2 = some r) :
  Calls Tryd.prog 63 #[.slice A0 l0.length c0, .int .i64 a1, .slice A2 l2.length c2] w fun e w' => e = .returned (.int .i64 r) ∧ Below w.heap.size w w' := by
 have HR0 := a_ hr0
 have HC0 := a_ hc0
 clear hr0 hc0
 have HR2 := a_ hr2
 have HC2 := a_ hc2
 clear hr2 hc2
 have HB := a_ (Below.refl w.heap.size w)
 have H : ((refill_Check.f k l0).bind fun t125 => (if t125 = 0 then (refill_event.l0 k l0 a1 l2 (l2.length : Int) 0) else (some t125))) = some r := h
 clear h
 replace H := Option.bind_eq_some_iff.mp H
 obtain ⟨t125, A40, H⟩ := H
 replace H : (if t125 = 0 then (refill_event.l0 k l0 a1 l2 (l2.length : Int) 0) else (some t125)) = some r := H
 have A4 := a_ A40
 clear A40
 by_cases c5 : t125 = 0
 ·rw [if_pos c5] at H
  have c5b0 : (t125 == 0) = true := beq_iff_eq.mpr c5
  have c5b1 : (t125 != 0) = false := bne_eq_false_iff_eq.mpr c5
  clear c5
  have H' := a_ H
  clear H
  go_enter Tryd.func63, Tryd.ntmps63
  go_wp2_with (first | ((with_reducible refine gate_callee (f := 47) rfl ?_); refine goesL_ (some 11) rfl rfl Tryd.func47 (by kernel_rfl) rfl #[.slice A0 l0.length c0] rfl tm_ ?_; (with_reducible refine (refill_Check.calls k _ _ l0 t125 _ ?side1 ?side2 A4.out).mono ?_); (case side1 => exact cl_ HR0.out); (case side2 => exact HC0.out); rintro e w6 ⟨rfl, hb⟩; refine ⟨_, rfl, ?_⟩; have n0_ := a_ (below_step bl_ hb); clear HB; have HB := n0_; clear n0_; (try clear hb); (try clear hb2); (try clear hk); (try clear hi)))
  go_loopg [17] k (fun kq v17 w' => ∃ (x17_1 : Int), v17 = .int .i64 x17_1 ∧ Aside0 (refill_event.l0 kq l0 a1 l2 (l2.length : Int) x17_1 = some r) ∧ Aside0 (kq ≤ k) ∧ Aside0 (Below w.heap.size w w'))
  case atStart => exact ⟨(0), (by first | rfl | (simp; done) | (simp [*]; done)), H', ⟨Nat.le_refl _⟩, ⟨bl_⟩⟩
  case round =>
   clear H'
   try clear c2
   try clear p2
   try clear c4
   try clear c5
   try clear c5b0
   try clear c5b1
   try clear c6
   obtain ⟨x17_1, rfl, HA, HK1, HB⟩ := hrel
   cases gk with
   | zero => exact absurd HA.out (by simp [refill_event.l0])
   | succ k1 =>
    have H := HA.out
    clear HA
    simp only [refill_event.l0] at H
    by_cases c7 : x17_1 < (l2.length : Int)
    ·rw [if_pos c7] at H
     have c7b0 : decide (x17_1 < (l2.length : Int)) = true := decide_eq_true c7
     clear c7
     by_cases c8 : 0 ≤ x17_1
     ·rw [if_pos c8] at H
      have c8b0 : decide (0 ≤ x17_1) = true := decide_eq_true c8
      clear c8
      by_cases c9 : x17_1 < (l2.length : Int)
      ·rw [if_pos c9] at H
       have c9b0 : decide (x17_1 < (l2.length : Int)) = true := decide_eq_true c9
       clear c9
       by_cases c10 : (rd l2 x17_1) < a1
       ·rw [if_pos c10] at H
        have c10b0 : decide ((rd l2 x17_1) < a1) = true := decide_eq_true c10
        clear c10
        obtain rfl := Option.some.inj H
        have p126 : 0 ≤ (x17_1 : Int) := of_decide_eq_true (by first | (with_reducible assumption) | assumption)
        have q126 : x17_1 < (l2.length : Int) := of_decide_eq_true (by first | (with_reducible assumption) | assumption)
        obtain ⟨ad126, e126, hx126_0⟩ := Kd.at_int HR2.out x17_1 p126 q126
        cases e126
        replace hx126_0 := (HB.out.cell (World.block_lt_of_cell? w _ hx126_0)).trans hx126_0
        replace p126 := eq_true p126
        replace q126 := eq_true q126
        go_wp2
        go_ret
        exact ⟨by first | rfl | (simp [errW_none, errW_some] <;> rfl) | (simp [*, errW_none, errW_some] <;> rfl), bl_⟩
       ·rw [if_neg c10] at H
        have c10b0 : decide ((rd l2 x17_1) < a1) = false := decide_eq_false c10
        clear c10
        by_cases c11 : (rd l2 x17_1) ≥ (l0.length : Int)
        ·rw [if_pos c11] at H
         have c11b0 : decide ((l0.length : Int) ≤ (rd l2 x17_1)) = true := decide_eq_true c11
         clear c11
         obtain rfl := Option.some.inj H
         have p126 : 0 ≤ (x17_1 : Int) := of_decide_eq_true (by first | (with_reducible assumption) | assumption)
         have q126 : x17_1 < (l2.length : Int) := of_decide_eq_true (by first | (with_reducible assumption) | assumption)
         obtain ⟨ad126, e126, hx126_0⟩ := Kd.at_int HR2.out x17_1 p126 q126
         cases e126
         replace hx126_0 := (HB.out.cell (World.block_lt_of_cell? w _ hx126_0)).trans hx126_0
         replace p126 := eq_true p126
         replace q126 := eq_true q126
         go_wp2
         go_ret
         exact ⟨by first | rfl | (simp [errW_none, errW_some] <;> rfl) | (simp [*, errW_none, errW_some] <;> rfl), bl_⟩
        ·rw [if_neg c11] at H
         have c11b0 : decide ((l0.length : Int) ≤ (rd l2 x17_1)) = false := decide_eq_false c11
         clear c11
         have H' := a_ H
         clear H
         have p126 : 0 ≤ (x17_1 : Int) := of_decide_eq_true (by first | (with_reducible assumption) | assumption)
         have q126 : x17_1 < (l2.length : Int) := of_decide_eq_true (by first | (with_reducible assumption) | assumption)
         obtain ⟨ad126, e126, hx126_0⟩ := Kd.at_int HR2.out x17_1 p126 q126
         cases e126
         replace hx126_0 := (HB.out.cell (World.block_lt_of_cell? w _ hx126_0)).trans hx126_0
         replace p126 := eq_true p126
         replace q126 := eq_true q126
         go_wp2
         go_roundg k1
         case measure => have := HK1.out; omega
         case rel => exact ⟨(wrap64 (x17_1 + 1)), (by first | rfl | (simp; done) | (simp [*]; done)), H', ⟨by have := HK1.out; omega⟩, ⟨bl_⟩⟩
      ·rw [if_neg c9] at H
       exact absurd H (by simp)
     ·rw [if_neg c8] at H
      exact absurd H (by simp)
    ·rw [if_neg c7] at H
     have c7b0 : decide (x17_1 < (l2.length : Int)) = false := decide_eq_false c7
     clear c7
     obtain rfl := Option.some.inj H
     go_wp2
     go_ret
     exact ⟨by first | rfl | (simp [errW_none, errW_some] <;> rfl) | (simp [*, errW_none, errW_some] <;> rfl), bl_⟩
 ·rw [if_neg c5] at H
  have c5b0 : (t125 == 0) = false := beq_eq_false_iff_ne.mpr c5
  have c5b1 : (t125 != 0) = true := bne_iff_ne.mpr c5
  obtain rfl := Option.some.inj H
  go_enter Tryd.func63, Tryd.ntmps63
  go_wp2_with (first | ((with_reducible refine gate_callee (f := 47) rfl ?_); refine goesL_ (some 11) rfl rfl Tryd.func47 (by kernel_rfl) rfl #[.slice A0 l0.length c0] rfl tm_ ?_; (with_reducible refine (refill_Check.calls k _ _ l0 t125 _ ?side1 ?side2 A4.out).mono ?_); (case side1 => exact cl_ HR0.out); (case side2 => exact HC0.out); rintro e w12 ⟨rfl, hb⟩; refine ⟨_, rfl, ?_⟩; have n0_ := a_ (below_step bl_ hb); clear HB; have HB := n0_; clear n0_; (try clear hb); (try clear hb2); (try clear hk); (try clear hi)))
  go_ret
  exact ⟨by first | rfl | (simp [errW_none, errW_some] <;> rfl) | (simp [*, errW_none, errW_some] <;> rfl), bl_⟩
end Go.Proofs.YtgiihjcpgjpkcaaDoor.Q
