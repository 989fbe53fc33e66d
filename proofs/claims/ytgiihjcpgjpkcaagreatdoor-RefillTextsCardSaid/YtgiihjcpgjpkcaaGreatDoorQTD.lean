/- Contracts of functions of the given program: each Go function as a plain Lean function (name.f) and the proof that its call answers just so, for every reading of its arguments. Written by the session's program wip/xprint.py out of the translation. -/
import Derived.Test.YtgiihjcpgjpkcaaGreatDoorQ0
import Derived.Test.YtgiihjcpgjpkcaaGreatDoorQA
import Derived.Test.YtgiihjcpgjpkcaaGreatDoorQN
import Derived.Test.YtgiihjcpgjpkcaaGreatDoorHLib
import Derived.Test.YtgiihjcpgjpkcaaGreatDoorHSpan
namespace Go.Proofs.YtgiihjcpgjpkcaaGreatDoor.Q
open Go.RowKit Go.Proofs.YtgiihjcpgjpkcaaGreatDoorW.PrintWords Go.Proofs.YtgiihjcpgjpkcaaGreatDoorW.PrintLast Go.Proofs.YtgiihjcpgjpkcaaGreatDoorW.PrintMore
attribute [local go_sem] max2_int min2_int max_two min_two max_three min_three max_four min_four   -- for this text's walks alone
set_option linter.unusedVariables false
set_option linter.unusedSimpArgs false

/-! ### refill_Parse: function 8 -/
def refill_Parse.l0 : Nat → ByteArray → List (S37) → List ByteArray → Int → Int → Option ((List (S37)) × Int)
 | 0, _, _, _, _, _ => none
 | k + 1, x0, x4, x17, x18, x19 => if x19 < x18 then (if 0 ≤ x19 then (if x19 < (x17.length : Int) then ((strings_Cut.f (rdOf ByteArray.empty x17 x19) (⟨#[64]⟩ : ByteArray)).bind fun bt301 => ((refill_spanOf.f bt301.1).bind fun bt304 => ((refill_unknown.f).bind fun bt308 => (if bt301.2.2 = true then ((refill_spanOf.f bt301.2.1).bind fun bt311 => (if bt304.2.2 = true then (if bt311.2.2 = true then (if x4.length < 4398046511104 then (refill_Parse.l0 k x0 (x4 ++ [(⟨(⟨bt304.1, bt304.2.1⟩ : S35), (⟨bt311.1, bt311.2.1⟩ : S35)⟩ : S37)]) x17 x18 (wrap64 (x19 + 1))) else (none)) else (some (([] : List (S37)), 3))) else (some (([] : List (S37)), 3)))) else (if bt304.2.2 = true then (if x4.length < 4398046511104 then (refill_Parse.l0 k x0 (x4 ++ [(⟨(⟨bt304.1, bt304.2.1⟩ : S35), (⟨bt308.1, bt308.2⟩ : S35)⟩ : S37)]) x17 x18 (wrap64 (x19 + 1))) else (none)) else (some (([] : List (S37)), 3))))))) else (none)) else (none)) else ((refill_Print.f k x4).bind fun bt298 => (if bt298.2 = 0 then (if bt298.1.toList = x0.toList then (some (x4, 0)) else (some (([] : List (S37)), 3))) else (some (([] : List (S37)), 3))))
def refill_Parse.f (k : Nat) (a0 : ByteArray) : Option ((List (S37)) × Int) := (strings_Split.f a0 (⟨#[32]⟩ : ByteArray)).bind fun t295 => (refill_Parse.l0 k a0 ([] : List (S37)) t295 (t295.length : Int) 0)
theorem refill_Parse.mono_l : ∀ k, (∀ y0 y1 y2 y3 y4, LeO (refill_Parse.l0 k y0 y1 y2 y3 y4) (refill_Parse.l0 (k + 1) y0 y1 y2 y3 y4))
 | 0 => fun _ _ _ _ _ r h => by simp [refill_Parse.l0] at h
 | k + 1 => by
  have ih0 := refill_Parse.mono_l k
  ·intro y0 y1 y2 y3 y4
   unfold refill_Parse.l0
   repeat' first
   | (with_reducible exact ih0 _ _ _ _ _)
   | (with_reducible exact refill_Print.mono _ _)
   | (with_reducible exact LeO.refl _)
   | (with_reducible exact LeO.none _)
   | (with_reducible refine LeO.ite ?_ ?_)
   | (with_reducible refine LeO.bind ?_ (fun _ => ?_))
   | exact ih0 _ _ _ _ _
   | exact refill_Print.mono _ _
   | exact LeO.none _
   | refine LeO.ite ?_ ?_
   | refine LeO.bind ?_ (fun _ => ?_)
theorem refill_Parse.mono : ∀ a0 k, LeO (refill_Parse.f k a0) (refill_Parse.f (k + 1) a0) := by
 intro a0 k
 have ih0 := refill_Parse.mono_l k
 unfold refill_Parse.f
 repeat' first
   | (with_reducible exact ih0 _ _ _ _ _)
   | (with_reducible exact refill_Print.mono _ _)
   | (with_reducible exact LeO.refl _)
   | (with_reducible exact LeO.none _)
   | (with_reducible refine LeO.ite ?_ ?_)
   | (with_reducible refine LeO.bind ?_ (fun _ => ?_))
   | exact ih0 _ _ _ _ _
   | exact refill_Print.mono _ _
   | exact LeO.none _
   | refine LeO.ite ?_ ?_
   | refine LeO.bind ?_ (fun _ => ?_)
set_option maxHeartbeats 8000000 in
set_option maxRecDepth 100000 in
theorem refill_Parse.calls (k : Nat) (a0 : ByteArray) (r1 : List (S37)) (r2 : Int) (w : World) (ht : TabB w) (h : refill_Parse.f k a0 = some (r1, r2)) :
  Calls Tryz.prog 8 #[.string a0] w fun e w' => ∃ v0_ : Value, e = .returned (.tuple #[v0_, .int .i64 r2]) ∧ Kd.R k37 37 w' w.heap.size (fun _ => True) v0_ r1 ∧ Below w.heap.size w w' := by
 have hu35 := Tryz.underlying35
 have hu37 := Tryz.underlying37
 have HT := a_ ht
 clear ht
 have HB := a_ (Below.refl w.heap.size w)
 have H : ((strings_Split.f a0 (⟨#[32]⟩ : ByteArray)).bind fun t295 => (refill_Parse.l0 k a0 ([] : List (S37)) t295 (t295.length : Int) 0)) = some (r1, r2) := h
 clear h
 replace H := Option.bind_eq_some_iff.mp H
 obtain ⟨t295, A20, H⟩ := H
 replace H : (refill_Parse.l0 k a0 ([] : List (S37)) t295 (t295.length : Int) 0) = some (r1, r2) := H
 have A2 := a_ A20
 clear A20
 have H' := a_ H
 clear H
 go_enter Tryz.func8, Tryz.ntmps8
 go_wp2_with (first | ((with_reducible refine gate_callee (f := 32) rfl ?_); refine goesL_ (some 17) rfl rfl Tryz.func32 (by kernel_rfl) rfl #[.string a0, .string (⟨#[32]⟩ : ByteArray)] rfl tm_ ?_; (with_reducible refine (strings_Split.calls a0 (⟨#[32]⟩ : ByteArray) t295 _ ?side1 A2.out).mono ?_); (case side1 => exact TabB.below HT.out bl_); rintro e w3 ⟨v296, rfl, ho0, hb⟩; refine ⟨_, rfl, ?_⟩; have n0_ := a_ (Kd.R_lower ho0 (below_size bl_)); have n1_ := a_ (below_step bl_ hb); clear HB; have HO297 := n0_; have HB := n1_; clear n0_ n1_; (try clear hb); (try clear hb2); (try clear hk); (try clear hi); (try clear ho0); obtain ⟨Ao4, co4, eo4⟩ := Kd.R_slice HO297.out; subst eo4))
 go_loopg [4, 19] k (fun kq v4 v19 w' => ∃ (x4_1 : List (S37)) (x19_1 : Int), v19 = .int .i64 x19_1 ∧ Aside0 (refill_Parse.l0 kq a0 x4_1 t295 (t295.length : Int) x19_1 = some (r1, r2)) ∧ Aside0 (kq ≤ k) ∧ Aside0 (Kd.R k37 37 w' w.heap.size (fun _ => True) v4 x4_1) ∧ Aside0 (Kd.R Kd.string 9 w' w.heap.size (fun _ => True) (.slice Ao4 t295.length co4) t295) ∧ Aside0 (Below w.heap.size w w'))
 case atStart => exact ⟨(([] : List (S37))), (0), (by first | rfl | (simp; done) | (simp [*]; done)), H', ⟨Nat.le_refl _⟩, ⟨by first | exact Kd.R_nil _ _ _ _ _ | exact Kd.N_nil _ _ _ _ _ | exact Kd.V_nil _ _ _ _ _ | exact Kd.Q_nil _ _ _ _ _ | exact Kd.S_nil _ _ _ _ _⟩, ⟨rl_ HO297.out⟩, ⟨bl_⟩⟩
 case round =>
  clear H'
  try clear p2
  try clear c3
  obtain ⟨x4_1, x19_1, rfl, HA, HK1, HO_4, HO_17, HB⟩ := hrel
  cases gk with
  | zero => exact absurd HA.out (by simp [refill_Parse.l0])
  | succ k1 =>
   have H := HA.out
   clear HA
   simp only [refill_Parse.l0] at H
   by_cases c5 : x19_1 < (t295.length : Int)
   ·rw [if_pos c5] at H
    have c5b0 : decide (x19_1 < (t295.length : Int)) = true := decide_eq_true c5
    clear c5
    by_cases c6 : 0 ≤ x19_1
    ·rw [if_pos c6] at H
     have c6b0 : decide (0 ≤ x19_1) = true := decide_eq_true c6
     clear c6
     by_cases c7 : x19_1 < (t295.length : Int)
     ·rw [if_pos c7] at H
      have c7b0 : decide (x19_1 < (t295.length : Int)) = true := decide_eq_true c7
      clear c7
      replace H := Option.bind_eq_some_iff.mp H
      obtain ⟨⟨t301, t302, t303⟩, A80, H⟩ := H
      replace H : ((refill_spanOf.f t301).bind fun bt304 => ((refill_unknown.f).bind fun bt308 => (if t303 = true then ((refill_spanOf.f t302).bind fun bt311 => (if bt304.2.2 = true then (if bt311.2.2 = true then (if x4_1.length < 4398046511104 then (refill_Parse.l0 k1 a0 (x4_1 ++ [(⟨(⟨bt304.1, bt304.2.1⟩ : S35), (⟨bt311.1, bt311.2.1⟩ : S35)⟩ : S37)]) t295 (t295.length : Int) (wrap64 (x19_1 + 1))) else (none)) else (some (([] : List (S37)), 3))) else (some (([] : List (S37)), 3)))) else (if bt304.2.2 = true then (if x4_1.length < 4398046511104 then (refill_Parse.l0 k1 a0 (x4_1 ++ [(⟨(⟨bt304.1, bt304.2.1⟩ : S35), (⟨bt308.1, bt308.2⟩ : S35)⟩ : S37)]) t295 (t295.length : Int) (wrap64 (x19_1 + 1))) else (none)) else (some (([] : List (S37)), 3)))))) = some (r1, r2) := H
      have A8 := a_ A80
      clear A80
      replace H := Option.bind_eq_some_iff.mp H
      obtain ⟨⟨t304, t305, t306⟩, A90, H⟩ := H
      replace H : ((refill_unknown.f).bind fun bt308 => (if t303 = true then ((refill_spanOf.f t302).bind fun bt311 => (if t306 = true then (if bt311.2.2 = true then (if x4_1.length < 4398046511104 then (refill_Parse.l0 k1 a0 (x4_1 ++ [(⟨(⟨t304, t305⟩ : S35), (⟨bt311.1, bt311.2.1⟩ : S35)⟩ : S37)]) t295 (t295.length : Int) (wrap64 (x19_1 + 1))) else (none)) else (some (([] : List (S37)), 3))) else (some (([] : List (S37)), 3)))) else (if t306 = true then (if x4_1.length < 4398046511104 then (refill_Parse.l0 k1 a0 (x4_1 ++ [(⟨(⟨t304, t305⟩ : S35), (⟨bt308.1, bt308.2⟩ : S35)⟩ : S37)]) t295 (t295.length : Int) (wrap64 (x19_1 + 1))) else (none)) else (some (([] : List (S37)), 3))))) = some (r1, r2) := H
      have A9 := a_ A90
      clear A90
      replace H := Option.bind_eq_some_iff.mp H
      obtain ⟨⟨t308, t309⟩, A100, H⟩ := H
      replace H : (if t303 = true then ((refill_spanOf.f t302).bind fun bt311 => (if t306 = true then (if bt311.2.2 = true then (if x4_1.length < 4398046511104 then (refill_Parse.l0 k1 a0 (x4_1 ++ [(⟨(⟨t304, t305⟩ : S35), (⟨bt311.1, bt311.2.1⟩ : S35)⟩ : S37)]) t295 (t295.length : Int) (wrap64 (x19_1 + 1))) else (none)) else (some (([] : List (S37)), 3))) else (some (([] : List (S37)), 3)))) else (if t306 = true then (if x4_1.length < 4398046511104 then (refill_Parse.l0 k1 a0 (x4_1 ++ [(⟨(⟨t304, t305⟩ : S35), (⟨t308, t309⟩ : S35)⟩ : S37)]) t295 (t295.length : Int) (wrap64 (x19_1 + 1))) else (none)) else (some (([] : List (S37)), 3)))) = some (r1, r2) := H
      have A10 := a_ A100
      clear A100
      by_cases c11 : t303 = true
      ·subst c11
       have H1 : ((refill_spanOf.f t302).bind fun bt311 => (if t306 = true then (if bt311.2.2 = true then (if x4_1.length < 4398046511104 then (refill_Parse.l0 k1 a0 (x4_1 ++ [(⟨(⟨t304, t305⟩ : S35), (⟨bt311.1, bt311.2.1⟩ : S35)⟩ : S37)]) t295 (t295.length : Int) (wrap64 (x19_1 + 1))) else (none)) else (some (([] : List (S37)), 3))) else (some (([] : List (S37)), 3)))) = some (r1, r2) := by rw [if_pos rfl] at H; exact H
       clear H
       have H := H1
       clear H1
       replace H := Option.bind_eq_some_iff.mp H
       obtain ⟨⟨t311, t312, t313⟩, A120, H⟩ := H
       replace H : (if t306 = true then (if t313 = true then (if x4_1.length < 4398046511104 then (refill_Parse.l0 k1 a0 (x4_1 ++ [(⟨(⟨t304, t305⟩ : S35), (⟨t311, t312⟩ : S35)⟩ : S37)]) t295 (t295.length : Int) (wrap64 (x19_1 + 1))) else (none)) else (some (([] : List (S37)), 3))) else (some (([] : List (S37)), 3))) = some (r1, r2) := H
       have A12 := a_ A120
       clear A120
       by_cases c13 : t306 = true
       ·subst c13
        have H1 : (if t313 = true then (if x4_1.length < 4398046511104 then (refill_Parse.l0 k1 a0 (x4_1 ++ [(⟨(⟨t304, t305⟩ : S35), (⟨t311, t312⟩ : S35)⟩ : S37)]) t295 (t295.length : Int) (wrap64 (x19_1 + 1))) else (none)) else (some (([] : List (S37)), 3))) = some (r1, r2) := by rw [if_pos rfl] at H; exact H
        clear H
        have H := H1
        clear H1
        by_cases c14 : t313 = true
        ·subst c14
         have H1 : (if x4_1.length < 4398046511104 then (refill_Parse.l0 k1 a0 (x4_1 ++ [(⟨(⟨t304, t305⟩ : S35), (⟨t311, t312⟩ : S35)⟩ : S37)]) t295 (t295.length : Int) (wrap64 (x19_1 + 1))) else (none)) = some (r1, r2) := by rw [if_pos rfl] at H; exact H
         clear H
         have H := H1
         clear H1
         by_cases c15 : x4_1.length < 4398046511104
         ·rw [if_pos c15] at H
          have LMc15 := a_ c15
          clear c15
          obtain ⟨y314, hy314⟩ : ∃ y_ : List (S37), y_ = (x4_1 ++ [(⟨(⟨t304, t305⟩ : S35), (⟨t311, t312⟩ : S35)⟩ : S37)]) := ⟨_, rfl⟩
          replace H : (refill_Parse.l0 k1 a0 y314 t295 (t295.length : Int) (wrap64 (x19_1 + 1))) = some (r1, r2) := by first | (rw [hy314]; with_reducible exact H) | (have H2_ := (Option.bind_some _ _).symm.trans H; rw [hy314]; with_reducible exact H2_) | (have H2_ := (Option.bind_some _ _).symm.trans H; with_reducible exact H2_) | with_reducible exact H | (rw [hy314]; exact H) | exact H
          have Ny314 := a_ hy314
          clear hy314
          have H' := a_ H
          clear H
          have p300 : 0 ≤ (x19_1 : Int) := of_decide_eq_true (by first | (with_reducible assumption) | assumption)
          have q300 : x19_1 < (t295.length : Int) := of_decide_eq_true (by first | (with_reducible assumption) | assumption)
          obtain ⟨ad300, e300, hx300_0⟩ := Kd.at_string (Kd.R_reads' HO_17.out).2.2 x19_1 p300 q300
          cases e300
          replace p300 := eq_true p300
          replace q300 := eq_true q300
          try go_wp2_with (first | ((with_reducible refine gate_callee (f := 33) rfl ?_); refine goesL_ (some 25) rfl rfl Tryz.func33 (by kernel_rfl) rfl #[.string (rdOf ByteArray.empty t295 x19_1), .string (⟨#[64]⟩ : ByteArray)] rfl tm_ ?_; (with_reducible refine (strings_Cut.calls (rdOf ByteArray.empty t295 x19_1) (⟨#[64]⟩ : ByteArray) t301 t302 true _ ?side1 A8.out).mono ?_); (case side1 => exact TabB.below HT.out bl_); rintro e w16 ⟨rfl, hb⟩; refine ⟨_, rfl, ?_⟩; have n0_ := a_ (Kd.R_below (rl_ HO_4.out) hb); have n1_ := a_ (Kd.R_below (rl_ HO_17.out) hb); have n2_ := a_ (below_step bl_ hb); clear HO_4; clear HO_17; clear HB; have HO_4 := n0_; have HO_17 := n1_; have HB := n2_; clear n0_ n1_ n2_; (try clear hb); (try clear hb2); (try clear hk); (try clear hi)) | ((with_reducible refine gate_callee (f := 34) rfl ?_); refine goesL_ (some 31) rfl rfl Tryz.func34 (by kernel_rfl) rfl #[.string t301] rfl tm_ ?_; (with_reducible refine (refill_spanOf.calls t301 t304 t305 true _ ?side1 A9.out).mono ?_); (case side1 => exact TabB.below HT.out bl_); rintro e w17 ⟨rfl, hb⟩; refine ⟨_, rfl, ?_⟩; have n0_ := a_ (Kd.R_below (rl_ HO_4.out) hb); have n1_ := a_ (Kd.R_below (rl_ HO_17.out) hb); have n2_ := a_ (below_step bl_ hb); clear HO_4; clear HO_17; clear HB; have HO_4 := n0_; have HO_17 := n1_; have HB := n2_; clear n0_ n1_ n2_; (try clear hb); (try clear hb2); (try clear hk); (try clear hi)) | ((with_reducible refine gate_dst (N := 10) rfl ?_); refine box_event ?hg (N := 10) ?hd (cs := #[.int .i64 0, .int .i64 0]) (t := 35) ?hr ?_; (case hd => rfl); (case hg => rfl); (case hr => first | (go_simp; done) | (go_simp; rfl)); intro gb307 hg w18 hbox hb; have n0_ := a_ (Kd.R_below (rl_ HO_4.out) hb); have n1_ := a_ (Kd.R_below (rl_ HO_17.out) hb); have n2_ := a_ (below_step bl_ hb); have n3_ := a_ (hbox); have n4_ := a_ ((bz_ (w := w) hg)); have n5_ := a_ ((bz_ (w := w) hg)); clear HO_4; clear HO_17; clear HB; have HO_4 := n0_; have HO_17 := n1_; have HB := n2_; have BK307 := n3_; have GW307 := n4_; have GE307 := n5_; clear n0_ n1_ n2_ n3_ n4_ n5_; clear hb hbox hg; have hcz19_0 : w18.cell? ⟨gb307, 0, none⟩ = some (.int .i64 0) := (blk_cell BK307.out 0).trans rfl; have hcz19_1 : w18.cell? ⟨gb307, 1, none⟩ = some (.int .i64 0) := (blk_cell BK307.out 1).trans rfl; have hfz19_0 := blk_frozen BK307.out 0; have hfz19_1 := blk_frozen BK307.out 1))
          have n0_ : Aside0 (Kd.R k37 37 ((w18.setCell ⟨gb307, 0, none⟩ (.int .i64 t304)).setCell ⟨gb307, 1, none⟩ (.int .i64 t305)) w.heap.size (fun _ => True) u4 x4_1) := ⟨by (with_reducible repeat (first | apply Kd.R_alloc | apply Kd.R_drewN | apply Kd.R_drew)); exact Kd.R_mono (Kd.R_far (p := ⟨gb307, 1, none⟩) (Kd.R_far (p := ⟨gb307, 0, none⟩) (Kd.R_types HO_4.out BK307.out (by decide)) (fun _ hk => hk.2) (.int .i64 t304)) (fun _ hk => hk.2) (.int .i64 t305)) (fun _ hk => trivial)⟩
          have n1_ : Aside0 (Kd.R Kd.string 9 ((w18.setCell ⟨gb307, 0, none⟩ (.int .i64 t304)).setCell ⟨gb307, 1, none⟩ (.int .i64 t305)) w.heap.size (fun _ => True) (.slice (some ad300) t295.length co4) t295) := ⟨by (with_reducible repeat (first | apply Kd.R_alloc | apply Kd.R_drewN | apply Kd.R_drew)); exact Kd.R_mono (Kd.R_far (p := ⟨gb307, 1, none⟩) (Kd.R_far (p := ⟨gb307, 0, none⟩) (Kd.R_types HO_17.out BK307.out (by decide)) (fun _ hk => hk.2) (.int .i64 t304)) (fun _ hk => hk.2) (.int .i64 t305)) (fun _ hk => trivial)⟩
          have n2_ : Aside0 (((w18.setCell ⟨gb307, 0, none⟩ (.int .i64 t304)).setCell ⟨gb307, 1, none⟩ (.int .i64 t305)).heap[gb307]? = some (.cells #[.int .i64 t304, .int .i64 t305] 35 (0, 0))) := ⟨by (with_reducible repeat (first | refine blk_drewN ?_ _ | refine blk_drew ?_ | refine blk_alloc ?_ _)); refine blk_put (cs := #[.int .i64 t304, .int .i64 0]) ?_ 1 _ rfl; (with_reducible repeat (first | refine blk_drewN ?_ _ | refine blk_drew ?_ | refine blk_alloc ?_ _)); refine blk_put (cs := #[.int .i64 0, .int .i64 0]) ?_ 0 _ rfl; (with_reducible repeat (first | refine blk_drewN ?_ _ | refine blk_drew ?_ | refine blk_alloc ?_ _)); exact BK307.out⟩
          have n3_ : Aside0 (Below w.heap.size w ((w18.setCell ⟨gb307, 0, none⟩ (.int .i64 t304)).setCell ⟨gb307, 1, none⟩ (.int .i64 t305))) := ⟨bl_⟩
          (try clear HO_4)
          (try clear HO_17)
          (try clear BK307)
          (try clear HB)
          generalize ((w18.setCell ⟨gb307, 0, none⟩ (.int .i64 t304)).setCell ⟨gb307, 1, none⟩ (.int .i64 t305)) = w20 at n0_ n1_ n2_ n3_ ⊢
          have HO_4 := n0_
          have HO_17 := n1_
          have BK307 := n2_
          have HB := n3_
          clear n0_ n1_ n2_ n3_
          have n0_ := a_ (Kd.R_drew HO_4.out)
          have n1_ := a_ (Kd.R_drew HO_17.out)
          have n2_ := a_ (blk_drew BK307.out)
          have n3_ := a_ (below_drew1 HB.out)
          clear HO_4
          clear HO_17
          clear BK307
          clear HB
          have HO_4 := n0_
          have HO_17 := n1_
          have BK307 := n2_
          have HB := n3_
          clear n0_ n1_ n2_ n3_
          refine start_ (n := 5) (S := fun w' => w'.cell? ⟨gb307, 0, none⟩ = some (.int .i64 t304) ∧ w'.cell? ⟨gb307, 1, none⟩ = some (.int .i64 t305)) (ds := []) #[false, false, false, false, false] (by kernel_rfl) rfl rfl ⟨(blk_cell BK307.out 0).trans rfl, (blk_cell BK307.out 1).trans rfl⟩ (fun hHeld => ?_)
          generalize w20.drew = w21 at HO_4 HO_17 BK307 HB hHeld ⊢
          refine take_ (i := 0) (N := some 34) (v := ?_) (a' := ?_) #[true, false, false, false, false] rfl rfl (by kernel_rfl) (fun _ _ _ h => h) (Or.inl ⟨by rfl, ?_⟩) hHeld ?_ ?_
          rotate_left
          ·rintro w' ⟨s0, s1⟩
           go_simp
           with_reducible rfl
          rotate_left
          ·simp only [Act.put, List.setIfInBounds_toArray, List.set_cons_zero, List.set_cons_succ, i64_w, i32_w]
           rfl
          refine join_ (σ := Nat) 1 #[true, true, true, true, false] (fun s_ => [(35, .agg #[.int .i64 t308, .int .i64 t309]), (12, .pointer (some ⟨s_, 0, none⟩)), (36, .agg #[.int .i64 t304, .int .i64 t305, .int .i64 t308, .int .i64 t309])]) (fun s_ w' => (w'.cell? ⟨gb307, 0, none⟩ = some (.int .i64 t304) ∧ w'.cell? ⟨gb307, 1, none⟩ = some (.int .i64 t305)) ∧ (Kd.R Kd.string 9 w' w.heap.size (fun _ => True) (.slice (some ad300) t295.length co4) t295) ∧ (Kd.R k37 37 w' w.heap.size (fun k_ => k_ ≠ s_) u4 x4_1) ∧ (w'.heap[gb307]? = some (.cells #[.int .i64 t304, .int .i64 t305] 35 (0, 0))) ∧ (w'.heap[s_]? = some (.cells #[.int .i64 0, .int .i64 0, .int .i64 0, .int .i64 0] 37 (0, 0))) ∧ (w.heap.size ≤ s_) ∧ (w.heap.size ≤ s_) ∧ (gb307 ≠ s_) ∧ (s_ ≠ gb307) ∧ (Below w.heap.size w w')) ?_ ?_
          rotate_left
          ·intro hCont
           refine two_ (i := 1) (j := 3) (Ni := some 35) (Nj := some 12) #[true, true, false, false, false] #[true, false, false, true, false] rfl rfl rfl rfl (by kernel_rfl) (by decide) (by decide) (fun K hK => ?_) (fun K hK => ?_)
           ·skip
            refine goes_ Tryz.func27 (by kernel_rfl) rfl #[] (by rfl) rfl rfl tm_ ?_
            with_reducible refine (refill_unknown.calls  t308 t309 _ A10.out).mono ?_
            rintro e w22 ⟨rfl, hb⟩
            refine ⟨_, rfl, ?_⟩
            have n0_ := a_ (Kd.R_below (rl_ HO_4.out) hb)
            have n1_ := a_ (Kd.R_below (rl_ HO_17.out) hb)
            have n2_ := a_ (bb_ BK307.out hb)
            have n3_ := a_ (below_step bl_ hb)
            clear HO_4
            clear HO_17
            clear BK307
            clear HB
            have HO_4 := n0_
            have HO_17 := n1_
            have BK307 := n2_
            have HB := n3_
            clear n0_ n1_ n2_ n3_
            (try clear hb)
            (try clear hb2)
            (try clear hk)
            (try clear hi)
            refine hK.out _ _ ⟨(blk_cell BK307.out 0).trans rfl, (blk_cell BK307.out 1).trans rfl⟩ (fun hHeld => ?_)
            clear hK K
            refine norm_ (a' := ?_) ?_ ?_
            rotate_left
            ·show Act.put _ (some 35) _ = _
             simp only [Act.put, List.setIfInBounds_toArray, List.set_cons_zero, List.set_cons_succ, i64_w, i32_w]
             rfl
            refine pure_ (i := 2) (N := some 36) (v := ?_) (a' := ?_) #[true, true, true, false, false] rfl rfl (by kernel_rfl) (fun _ _ _ h => h) (Or.inl ⟨by rfl, ?_⟩) ?_ ?_
            rotate_left
            ·intro w'
             go_simp
             with_reducible rfl
            rotate_left
            ·simp only [Act.put, List.setIfInBounds_toArray, List.set_cons_zero, List.set_cons_succ, i64_w, i32_w]
             rfl
            refine one_ (i := 3) (N := some 12) #[true, true, true, true, false] rfl rfl (by kernel_rfl) (by decide) (fun K hK => ?_)
            refine box_step ?hg (N := 12) ?hd (cs := #[.int .i64 0, .int .i64 0, .int .i64 0, .int .i64 0]) (t := 37) ?hr ?_; (case hd => rfl); (case hg => rfl); (case hr => first | (go_simp; done) | (go_simp; rfl))
            intro gb310 hg w23 hbox hb
            have n0_ := a_ (Kd.R_below (Kd.R_elderB (rl_ HO_4.out) gb310 (Nat.le_of_eq hg.symm)) hb)
            have n1_ := a_ (Kd.R_below (rl_ HO_17.out) hb)
            have n2_ := a_ (bb_ BK307.out hb)
            have n3_ := a_ (below_step bl_ hb)
            have n4_ := a_ (hbox)
            have n5_ := a_ ((bz_ (w := w) hg))
            have n6_ := a_ ((bz_ (w := w) hg))
            have n7_ := a_ ((nl_ BK307.out hg))
            have n8_ := a_ ((ng_ BK307.out hg))
            clear HO_4
            clear HO_17
            clear BK307
            clear HB
            have HO_4 := n0_
            have HO_17 := n1_
            have BK307 := n2_
            have HB := n3_
            have BK310 := n4_
            have GW310 := n5_
            have GE310 := n6_
            have NB307_310 := n7_
            have NB310_307 := n8_
            clear n0_ n1_ n2_ n3_ n4_ n5_ n6_ n7_ n8_
            clear hb hbox hg
            refine hK.out _ _ ⟨(blk_cell BK307.out 0).trans rfl, (blk_cell BK307.out 1).trans rfl⟩ (fun hHeld => ?_)
            clear hK K
            refine norm_ (a' := ?_) ?_ ?_
            rotate_left
            ·show Act.put _ (some 12) _ = _
             simp only [Act.put, List.setIfInBounds_toArray, List.set_cons_zero, List.set_cons_succ, i64_w, i32_w]
             rfl
            exact norm_ (by simp only [putAll, Act.put, List.setIfInBounds_toArray, List.set_cons_zero, List.set_cons_succ]) (hCont (gb310) _ ⟨hHeld, (rl_ HO_17.out), (rl_ (Kd.R_mono HO_4.out (fun _ hk => hk.2))), (by (with_reducible repeat (first | refine blk_drewN ?_ _ | refine blk_drew ?_ | refine blk_alloc ?_ _)); exact BK307.out), (by (with_reducible repeat (first | refine blk_drewN ?_ _ | refine blk_drew ?_ | refine blk_alloc ?_ _)); exact BK310.out), GW310.out, GE310.out, NB307_310.out, NB310_307.out, bl_⟩)
           ·skip
            refine box_step ?hg (N := 12) ?hd (cs := #[.int .i64 0, .int .i64 0, .int .i64 0, .int .i64 0]) (t := 37) ?hr ?_; (case hd => rfl); (case hg => rfl); (case hr => first | (go_simp; done) | (go_simp; rfl))
            intro gb310 hg w22 hbox hb
            have n0_ := a_ (Kd.R_below (Kd.R_elderB (rl_ HO_4.out) gb310 (Nat.le_of_eq hg.symm)) hb)
            have n1_ := a_ (Kd.R_below (rl_ HO_17.out) hb)
            have n2_ := a_ (bb_ BK307.out hb)
            have n3_ := a_ (below_step bl_ hb)
            have n4_ := a_ (hbox)
            have n5_ := a_ ((bz_ (w := w) hg))
            have n6_ := a_ ((bz_ (w := w) hg))
            have n7_ := a_ ((nl_ BK307.out hg))
            have n8_ := a_ ((ng_ BK307.out hg))
            clear HO_4
            clear HO_17
            clear BK307
            clear HB
            have HO_4 := n0_
            have HO_17 := n1_
            have BK307 := n2_
            have HB := n3_
            have BK310 := n4_
            have GW310 := n5_
            have GE310 := n6_
            have NB307_310 := n7_
            have NB310_307 := n8_
            clear n0_ n1_ n2_ n3_ n4_ n5_ n6_ n7_ n8_
            clear hb hbox hg
            refine hK.out _ _ ⟨(blk_cell BK307.out 0).trans rfl, (blk_cell BK307.out 1).trans rfl⟩ (fun hHeld => ?_)
            clear hK K
            refine norm_ (a' := ?_) ?_ ?_
            rotate_left
            ·show Act.put _ (some 12) _ = _
             simp only [Act.put, List.setIfInBounds_toArray, List.set_cons_zero, List.set_cons_succ, i64_w, i32_w]
             rfl
            refine one_ (i := 1) (N := some 35) #[true, true, false, true, false] rfl rfl (by kernel_rfl) (by decide) (fun K hK => ?_)
            refine goes_ Tryz.func27 (by kernel_rfl) rfl #[] (by rfl) rfl rfl tm_ ?_
            with_reducible refine (refill_unknown.calls  t308 t309 _ A10.out).mono ?_
            rintro e w23 ⟨rfl, hb⟩
            refine ⟨_, rfl, ?_⟩
            have n0_ := a_ (Kd.R_below (rl_ HO_4.out) hb)
            have n1_ := a_ (Kd.R_below (rl_ HO_17.out) hb)
            have n2_ := a_ (bb_ BK307.out hb)
            have n3_ := a_ (bb_ BK310.out hb)
            have n4_ := a_ (below_step bl_ hb)
            clear HO_4
            clear HO_17
            clear BK307
            clear BK310
            clear HB
            have HO_4 := n0_
            have HO_17 := n1_
            have BK307 := n2_
            have BK310 := n3_
            have HB := n4_
            clear n0_ n1_ n2_ n3_ n4_
            (try clear hb)
            (try clear hb2)
            (try clear hk)
            (try clear hi)
            refine hK.out _ _ ⟨(blk_cell BK307.out 0).trans rfl, (blk_cell BK307.out 1).trans rfl⟩ (fun hHeld => ?_)
            clear hK K
            refine norm_ (a' := ?_) ?_ ?_
            rotate_left
            ·show Act.put _ (some 35) _ = _
             simp only [Act.put, List.setIfInBounds_toArray, List.set_cons_zero, List.set_cons_succ, i64_w, i32_w]
             rfl
            refine pure_ (i := 2) (N := some 36) (v := ?_) (a' := ?_) #[true, true, true, true, false] rfl rfl (by kernel_rfl) (fun _ _ _ h => h) (Or.inl ⟨by rfl, ?_⟩) ?_ ?_
            rotate_left
            ·intro w'
             go_simp
             with_reducible rfl
            rotate_left
            ·simp only [Act.put, List.setIfInBounds_toArray, List.set_cons_zero, List.set_cons_succ, i64_w, i32_w]
             rfl
            exact norm_ (by simp only [putAll, Act.put, List.setIfInBounds_toArray, List.set_cons_zero, List.set_cons_succ]) (hCont (gb310) _ ⟨hHeld, (rl_ HO_17.out), (rl_ (Kd.R_mono HO_4.out (fun _ hk => hk.2))), (by (with_reducible repeat (first | refine blk_drewN ?_ _ | refine blk_drew ?_ | refine blk_alloc ?_ _)); exact BK307.out), (by (with_reducible repeat (first | refine blk_drewN ?_ _ | refine blk_drew ?_ | refine blk_alloc ?_ _)); exact BK310.out), GW310.out, GE310.out, NB307_310.out, NB310_307.out, bl_⟩)
          rintro gb310 w24 ⟨hS_, h0_, h1_, h2_, h3_, h4_, h5_, h6_, h7_, h8_⟩
          have n0_ : Aside0 (Kd.R Kd.string 9 w24 w.heap.size (fun _ => True) (.slice (some ad300) t295.length co4) t295) := ⟨h0_⟩
          have n1_ : Aside0 (Kd.R k37 37 w24 w.heap.size (fun k_ => k_ ≠ gb310) u4 x4_1) := ⟨h1_⟩
          have n2_ : Aside0 (w24.heap[gb307]? = some (.cells #[.int .i64 t304, .int .i64 t305] 35 (0, 0))) := ⟨h2_⟩
          have n3_ : Aside0 (w24.heap[gb310]? = some (.cells #[.int .i64 0, .int .i64 0, .int .i64 0, .int .i64 0] 37 (0, 0))) := ⟨h3_⟩
          have n4_ : Aside0 (w.heap.size ≤ gb310) := ⟨h4_⟩
          have n5_ : Aside0 (w.heap.size ≤ gb310) := ⟨h5_⟩
          have n6_ : Aside0 (gb307 ≠ gb310) := ⟨h6_⟩
          have n7_ : Aside0 (gb310 ≠ gb307) := ⟨h7_⟩
          have n8_ : Aside0 (Below w.heap.size w w24) := ⟨h8_⟩
          clear HO_4
          clear HO_17
          clear BK307
          clear HB
          clear h0_ h1_ h2_ h3_ h4_ h5_ h6_ h7_ h8_
          have HO_17 := n0_
          have HO_4 := n1_
          have BK307 := n2_
          have BK310 := n3_
          have GW310 := n4_
          have GE310 := n5_
          have NB307_310 := n6_
          have NB310_307 := n7_
          have HB := n8_
          clear n0_ n1_ n2_ n3_ n4_ n5_ n6_ n7_ n8_
          have hHeld : w24.cell? ⟨gb307, 0, none⟩ = some (.int .i64 t304) ∧ w24.cell? ⟨gb307, 1, none⟩ = some (.int .i64 t305) := hS_
          refine norm_ (a' := ?_) ?_ ?_
          rotate_left
          ·simp only [putAll, Act.put, List.setIfInBounds_toArray, List.set_cons_zero, List.set_cons_succ]
           rfl
          refine one_ (i := 4) (N := none) #[true, true, true, true, true] rfl rfl (by kernel_rfl) (by decide) (fun K hK => ?_)
          have hs25 : w24.cell? ⟨gb310, 0, none⟩ = some (.int .i64 0) := (blk_cell BK310.out 0).trans rfl
          have hfs25 := blk_frozen BK310.out 0
          have hns25_0 := NB307_310.out
          have hms25_0 := NB310_307.out
          have hs26 : w24.cell? ⟨gb310, 1, none⟩ = some (.int .i64 0) := (blk_cell BK310.out 1).trans rfl
          have hfs26 := blk_frozen BK310.out 1
          have hns26_0 := NB307_310.out
          have hms26_0 := NB310_307.out
          have hs27 : w24.cell? ⟨gb310, 2, none⟩ = some (.int .i64 0) := (blk_cell BK310.out 2).trans rfl
          have hfs27 := blk_frozen BK310.out 2
          have hns27_0 := NB307_310.out
          have hms27_0 := NB310_307.out
          have hs28 : w24.cell? ⟨gb310, 3, none⟩ = some (.int .i64 0) := (blk_cell BK310.out 3).trans rfl
          have hfs28 := blk_frozen BK310.out 3
          have hns28_0 := NB307_310.out
          have hms28_0 := NB310_307.out
          refine skip_ (w1 := ?_) (by rfl) rfl ?_ ?_
          rotate_left
          ·go_simp
           rfl
          refine hK.out _ _ ⟨((cell_far (p := ⟨gb310, _, none⟩) NB307_310.out _).trans (((cell_far (p := ⟨gb310, _, none⟩) NB307_310.out _).trans (((cell_far (p := ⟨gb310, _, none⟩) NB307_310.out _).trans (((cell_far (p := ⟨gb310, _, none⟩) NB307_310.out _).trans (hHeld.1)))))))), ((cell_far (p := ⟨gb310, _, none⟩) NB307_310.out _).trans (((cell_far (p := ⟨gb310, _, none⟩) NB307_310.out _).trans (((cell_far (p := ⟨gb310, _, none⟩) NB307_310.out _).trans (((cell_far (p := ⟨gb310, _, none⟩) NB307_310.out _).trans (hHeld.2))))))))⟩ (fun hHeld => ?_)
          clear hK K
          refine done_ (by kernel_rfl) ?_
          try go_wp2_with (first | ((with_reducible refine gate_callee (f := 34) rfl ?_); refine goesL_ (some 40) rfl rfl Tryz.func34 (by kernel_rfl) rfl #[.string t302] rfl tm_ ?_; (with_reducible refine (refill_spanOf.calls t302 t311 t312 true _ ?side1 A12.out).mono ?_); (case side1 => exact TabB.below HT.out bl_); rintro e w29 ⟨rfl, hb⟩; refine ⟨_, rfl, ?_⟩; have n0_ := a_ (Kd.R_below (by (with_reducible repeat (first | apply Kd.R_alloc | apply Kd.R_drewN | apply Kd.R_drew)); exact (Kd.R_mono (Kd.R_far (p := ⟨gb310, 3, none⟩) (Kd.R_far (p := ⟨gb310, 2, none⟩) (Kd.R_far (p := ⟨gb310, 1, none⟩) (Kd.R_far (p := ⟨gb310, 0, none⟩) (Kd.R_mono HO_4.out (fun k_ hk => (⟨hk, hk⟩ : _ ∧ k_ ≠ gb310))) (fun _ hk => hk.2) (.int .i64 t304)) (fun _ hk => hk.2) (.int .i64 t305)) (fun _ hk => hk.2) (.int .i64 t308)) (fun _ hk => hk.2) (.int .i64 t309)) (fun _ h_ => h_.1))) hb); have n1_ := a_ (Kd.R_below (by (with_reducible repeat (first | apply Kd.R_alloc | apply Kd.R_drewN | apply Kd.R_drew)); exact (Kd.R_mono (Kd.R_far (p := ⟨gb310, 3, none⟩) (Kd.R_far (p := ⟨gb310, 2, none⟩) (Kd.R_far (p := ⟨gb310, 1, none⟩) (Kd.R_far (p := ⟨gb310, 0, none⟩) (Kd.R_types HO_17.out BK310.out (by decide)) (fun _ hk => hk.2) (.int .i64 t304)) (fun _ hk => hk.2) (.int .i64 t305)) (fun _ hk => hk.2) (.int .i64 t308)) (fun _ hk => hk.2) (.int .i64 t309)) (fun _ h_ => h_.1))) hb); have n2_ := a_ (blk_below (g := gb307) (o := .cells #[.int .i64 t304, .int .i64 t305] 35 (0, 0)) (by (with_reducible repeat (first | refine blk_drewN ?_ _ | refine blk_drew ?_ | refine blk_alloc ?_ _)); refine blk_far ?_ NB307_310.out _; (with_reducible repeat (first | refine blk_drewN ?_ _ | refine blk_drew ?_ | refine blk_alloc ?_ _)); refine blk_far ?_ NB307_310.out _; (with_reducible repeat (first | refine blk_drewN ?_ _ | refine blk_drew ?_ | refine blk_alloc ?_ _)); refine blk_far ?_ NB307_310.out _; (with_reducible repeat (first | refine blk_drewN ?_ _ | refine blk_drew ?_ | refine blk_alloc ?_ _)); refine blk_far ?_ NB307_310.out _; (with_reducible repeat (first | refine blk_drewN ?_ _ | refine blk_drew ?_ | refine blk_alloc ?_ _)); exact BK307.out) hb); have n3_ := a_ (blk_below (g := gb310) (o := .cells #[.int .i64 t304, .int .i64 t305, .int .i64 t308, .int .i64 t309] 37 (0, 0)) (by (with_reducible repeat (first | refine blk_drewN ?_ _ | refine blk_drew ?_ | refine blk_alloc ?_ _)); refine blk_put (cs := #[.int .i64 t304, .int .i64 t305, .int .i64 t308, .int .i64 0]) ?_ 3 _ rfl; (with_reducible repeat (first | refine blk_drewN ?_ _ | refine blk_drew ?_ | refine blk_alloc ?_ _)); refine blk_put (cs := #[.int .i64 t304, .int .i64 t305, .int .i64 0, .int .i64 0]) ?_ 2 _ rfl; (with_reducible repeat (first | refine blk_drewN ?_ _ | refine blk_drew ?_ | refine blk_alloc ?_ _)); refine blk_put (cs := #[.int .i64 t304, .int .i64 0, .int .i64 0, .int .i64 0]) ?_ 1 _ rfl; (with_reducible repeat (first | refine blk_drewN ?_ _ | refine blk_drew ?_ | refine blk_alloc ?_ _)); refine blk_put (cs := #[.int .i64 0, .int .i64 0, .int .i64 0, .int .i64 0]) ?_ 0 _ rfl; (with_reducible repeat (first | refine blk_drewN ?_ _ | refine blk_drew ?_ | refine blk_alloc ?_ _)); exact BK310.out) hb); have n4_ := a_ (below_step bl_ hb); clear HO_4; clear HO_17; clear BK307; clear BK310; clear HB; have HO_4 := n0_; have HO_17 := n1_; have BK307 := n2_; have BK310 := n3_; have HB := n4_; clear n0_ n1_ n2_ n3_ n4_; (try clear hb); (try clear hb2); (try clear hk); (try clear hi); have hnb30 := NB310_307.out; have hnc30 := NB307_310.out; have hcz31_0 : w29.cell? ⟨gb310, 0, none⟩ = some (.int .i64 t304) := (blk_cell BK310.out 0).trans rfl; have hcz31_1 : w29.cell? ⟨gb310, 1, none⟩ = some (.int .i64 t305) := (blk_cell BK310.out 1).trans rfl; have hcz31_2 : w29.cell? ⟨gb310, 2, none⟩ = some (.int .i64 t308) := (blk_cell BK310.out 2).trans rfl; have hcz31_3 : w29.cell? ⟨gb310, 3, none⟩ = some (.int .i64 t309) := (blk_cell BK310.out 3).trans rfl; have hfz31_0 := blk_frozen BK310.out 0; have hfz31_1 := blk_frozen BK310.out 1; have hfz31_2 := blk_frozen BK310.out 2; have hfz31_3 := blk_frozen BK310.out 3) | ((with_reducible refine gate_builtin (b := .append) (xs := #[.tmp 50, .tmp 52]) rfl ?_); at_builtin; refine Kd.R_append k37 (w0 := w) w.heap.size rfl (.tmp 50) (.tmp 52) 23 37 (.agg #[(.int .i64 0), (.int .i64 0), (.int .i64 0), (.int .i64 0)]) 32 rfl Tryz.underlying23 info37 rfl (by decide) (by omega) u4 x4_1 (⟨(⟨t304, t305⟩ : S35), (⟨t311, t312⟩ : S35)⟩ : S37) [.int .i64 t304, .int .i64 t305, .int .i64 t311, .int .i64 t312] (fun k_ => k_ ≠ gb310) (fun _ => False) rfl (by first | (go_simp; done) | (go_simp; rfl)) ?aP (fun _ hk => hk.elim) ?aF ?aO ?aB ?aS ?aL ?_; (case aP => exact k37_mkM _ _ _ (⟨(⟨t304, t305⟩ : S35), (⟨t311, t312⟩ : S35)⟩ : S37)); (case aB => exact bl_); (case aF => exact (fun k_ hk => Kd.freshB (g := gb310) (o := .cells #[.int .i64 t304, .int .i64 t305, .int .i64 t311, .int .i64 t312] 37 (0, 0)) (by (with_reducible repeat (first | refine blk_drewN ?_ _ | refine blk_drew ?_ | refine blk_alloc ?_ _)); refine blk_put (cs := #[.int .i64 t304, .int .i64 t305, .int .i64 t311, .int .i64 t309]) ?_ 3 _ rfl; (with_reducible repeat (first | refine blk_drewN ?_ _ | refine blk_drew ?_ | refine blk_alloc ?_ _)); refine blk_put (cs := #[.int .i64 t304, .int .i64 t305, .int .i64 t308, .int .i64 t309]) ?_ 2 _ rfl; (with_reducible repeat (first | refine blk_drewN ?_ _ | refine blk_drew ?_ | refine blk_alloc ?_ _)); exact BK310.out) k_ hk)); (case aO => exact (by (with_reducible repeat (first | apply Kd.R_alloc | apply Kd.R_drewN | apply Kd.R_drew)); exact Kd.R_mono (Kd.R_far (p := ⟨gb310, 3, none⟩) (Kd.R_far (p := ⟨gb310, 2, none⟩) (Kd.R_mono HO_4.out (fun k_ hk => (⟨hk, hk⟩ : _ ∧ k_ ≠ gb310))) (fun _ hk => hk.2) (.int .i64 t311)) (fun _ hk => hk.2) (.int .i64 t312)) (fun _ hk => hk.1))); (case aS => exact (below_size bl_)); (case aL => have := LMc15.out; omega); intro v315 w32 ho hb hg hat; rw [← Ny314.out] at ho; have n0_ := a_ (Kd.R_over' (by (with_reducible repeat (first | apply Kd.R_alloc | apply Kd.R_drewN | apply Kd.R_drew)); exact (Kd.R_mono (Kd.R_far (p := ⟨gb310, 3, none⟩) (Kd.R_far (p := ⟨gb310, 2, none⟩) (Kd.R_types HO_17.out BK310.out (by decide)) (fun _ hk => hk.2) (.int .i64 t311)) (fun _ hk => hk.2) (.int .i64 t312)) (fun _ h_ => h_.1))) (Kd.R_typed (by (with_reducible repeat (first | apply Kd.R_alloc | apply Kd.R_drewN | apply Kd.R_drew)); exact (Kd.R_mono (Kd.R_far (p := ⟨gb310, 3, none⟩) (Kd.R_far (p := ⟨gb310, 2, none⟩) (Kd.R_mono HO_4.out (fun k_ hk => (⟨hk, hk⟩ : _ ∧ k_ ≠ gb310))) (fun _ hk => hk.2) (.int .i64 t311)) (fun _ hk => hk.2) (.int .i64 t312)) (fun _ h_ => h_.1)))) (by decide) hg); have n1_ := a_ (blk_grown (g := gb307) (o := .cells #[.int .i64 t304, .int .i64 t305] 35 (0, 0)) (by (with_reducible repeat (first | refine blk_drewN ?_ _ | refine blk_drew ?_ | refine blk_alloc ?_ _)); refine blk_far ?_ NB307_310.out _; (with_reducible repeat (first | refine blk_drewN ?_ _ | refine blk_drew ?_ | refine blk_alloc ?_ _)); refine blk_far ?_ NB307_310.out _; (with_reducible repeat (first | refine blk_drewN ?_ _ | refine blk_drew ?_ | refine blk_alloc ?_ _)); exact BK307.out) hg (Kd.R_ne HO_4.out BK307.out (by decide))); have n2_ := a_ (blk_grown (g := gb310) (o := .cells #[.int .i64 t304, .int .i64 t305, .int .i64 t311, .int .i64 t312] 37 (0, 0)) (by (with_reducible repeat (first | refine blk_drewN ?_ _ | refine blk_drew ?_ | refine blk_alloc ?_ _)); refine blk_put (cs := #[.int .i64 t304, .int .i64 t305, .int .i64 t311, .int .i64 t309]) ?_ 3 _ rfl; (with_reducible repeat (first | refine blk_drewN ?_ _ | refine blk_drew ?_ | refine blk_alloc ?_ _)); refine blk_put (cs := #[.int .i64 t304, .int .i64 t305, .int .i64 t308, .int .i64 t309]) ?_ 2 _ rfl; (with_reducible repeat (first | refine blk_drewN ?_ _ | refine blk_drew ?_ | refine blk_alloc ?_ _)); exact BK310.out) hg (Kd.R_away HO_4.out (fun _ hk => hk))); have n3_ := a_ (hb); have n4_ := a_ (ho); clear HO_17; clear BK307; clear BK310; clear HB; clear HO_4; have HO_17 := n0_; have BK307 := n1_; have BK310 := n2_; have HB := n3_; have HO316 := n4_; clear n0_ n1_ n2_ n3_ n4_; clear ho hb hg hat))
          go_roundg k1
          case measure => have := HK1.out; omega
          case rel => exact ⟨(y314), (wrap64 (x19_1 + 1)), (by first | rfl | (simp; done) | (simp [*]; done)), H', ⟨by have := HK1.out; omega⟩, ⟨rl_ (Kd.R_mono HO316.out (fun _ hk => trivial))⟩, ⟨rl_ HO_17.out⟩, ⟨bl_⟩⟩
         ·rw [if_neg c15] at H
          exact absurd H (by simp)
        ·replace c14 := Bool.eq_false_iff.mpr c14
         subst c14
         have H1 : (some (([] : List (S37)), 3)) = some (r1, r2) := by rw [if_neg (show ¬ (false = true) by decide)] at H; exact H
         clear H
         have H := H1
         clear H1
         simp only [Option.some.injEq, Prod.mk.injEq] at H
         obtain ⟨rfl, rfl⟩ := H
         have p300 : 0 ≤ (x19_1 : Int) := of_decide_eq_true (by first | (with_reducible assumption) | assumption)
         have q300 : x19_1 < (t295.length : Int) := of_decide_eq_true (by first | (with_reducible assumption) | assumption)
         obtain ⟨ad300, e300, hx300_0⟩ := Kd.at_string (Kd.R_reads' HO_17.out).2.2 x19_1 p300 q300
         cases e300
         replace p300 := eq_true p300
         replace q300 := eq_true q300
         try go_wp2_with (first | ((with_reducible refine gate_callee (f := 33) rfl ?_); refine goesL_ (some 25) rfl rfl Tryz.func33 (by kernel_rfl) rfl #[.string (rdOf ByteArray.empty t295 x19_1), .string (⟨#[64]⟩ : ByteArray)] rfl tm_ ?_; (with_reducible refine (strings_Cut.calls (rdOf ByteArray.empty t295 x19_1) (⟨#[64]⟩ : ByteArray) t301 t302 true _ ?side1 A8.out).mono ?_); (case side1 => exact TabB.below HT.out bl_); rintro e w33 ⟨rfl, hb⟩; refine ⟨_, rfl, ?_⟩; have n0_ := a_ (Kd.R_below (rl_ HO_4.out) hb); have n1_ := a_ (Kd.R_below (rl_ HO_17.out) hb); have n2_ := a_ (below_step bl_ hb); clear HO_4; clear HO_17; clear HB; have HO_4 := n0_; have HO_17 := n1_; have HB := n2_; clear n0_ n1_ n2_; (try clear hb); (try clear hb2); (try clear hk); (try clear hi)) | ((with_reducible refine gate_callee (f := 34) rfl ?_); refine goesL_ (some 31) rfl rfl Tryz.func34 (by kernel_rfl) rfl #[.string t301] rfl tm_ ?_; (with_reducible refine (refill_spanOf.calls t301 t304 t305 true _ ?side1 A9.out).mono ?_); (case side1 => exact TabB.below HT.out bl_); rintro e w34 ⟨rfl, hb⟩; refine ⟨_, rfl, ?_⟩; have n0_ := a_ (Kd.R_below (rl_ HO_4.out) hb); have n1_ := a_ (Kd.R_below (rl_ HO_17.out) hb); have n2_ := a_ (below_step bl_ hb); clear HO_4; clear HO_17; clear HB; have HO_4 := n0_; have HO_17 := n1_; have HB := n2_; clear n0_ n1_ n2_; (try clear hb); (try clear hb2); (try clear hk); (try clear hi)) | ((with_reducible refine gate_dst (N := 10) rfl ?_); refine box_event ?hg (N := 10) ?hd (cs := #[.int .i64 0, .int .i64 0]) (t := 35) ?hr ?_; (case hd => rfl); (case hg => rfl); (case hr => first | (go_simp; done) | (go_simp; rfl)); intro gb307 hg w35 hbox hb; have n0_ := a_ (Kd.R_below (rl_ HO_4.out) hb); have n1_ := a_ (Kd.R_below (rl_ HO_17.out) hb); have n2_ := a_ (below_step bl_ hb); have n3_ := a_ (hbox); have n4_ := a_ ((bz_ (w := w) hg)); have n5_ := a_ ((bz_ (w := w) hg)); clear HO_4; clear HO_17; clear HB; have HO_4 := n0_; have HO_17 := n1_; have HB := n2_; have BK307 := n3_; have GW307 := n4_; have GE307 := n5_; clear n0_ n1_ n2_ n3_ n4_ n5_; clear hb hbox hg; have hcz36_0 : w35.cell? ⟨gb307, 0, none⟩ = some (.int .i64 0) := (blk_cell BK307.out 0).trans rfl; have hcz36_1 : w35.cell? ⟨gb307, 1, none⟩ = some (.int .i64 0) := (blk_cell BK307.out 1).trans rfl; have hfz36_0 := blk_frozen BK307.out 0; have hfz36_1 := blk_frozen BK307.out 1))
         have n0_ : Aside0 (Kd.R k37 37 ((w35.setCell ⟨gb307, 0, none⟩ (.int .i64 t304)).setCell ⟨gb307, 1, none⟩ (.int .i64 t305)) w.heap.size (fun _ => True) u4 x4_1) := ⟨by (with_reducible repeat (first | apply Kd.R_alloc | apply Kd.R_drewN | apply Kd.R_drew)); exact Kd.R_mono (Kd.R_far (p := ⟨gb307, 1, none⟩) (Kd.R_far (p := ⟨gb307, 0, none⟩) (Kd.R_types HO_4.out BK307.out (by decide)) (fun _ hk => hk.2) (.int .i64 t304)) (fun _ hk => hk.2) (.int .i64 t305)) (fun _ hk => trivial)⟩
         have n1_ : Aside0 (Kd.R Kd.string 9 ((w35.setCell ⟨gb307, 0, none⟩ (.int .i64 t304)).setCell ⟨gb307, 1, none⟩ (.int .i64 t305)) w.heap.size (fun _ => True) (.slice (some ad300) t295.length co4) t295) := ⟨by (with_reducible repeat (first | apply Kd.R_alloc | apply Kd.R_drewN | apply Kd.R_drew)); exact Kd.R_mono (Kd.R_far (p := ⟨gb307, 1, none⟩) (Kd.R_far (p := ⟨gb307, 0, none⟩) (Kd.R_types HO_17.out BK307.out (by decide)) (fun _ hk => hk.2) (.int .i64 t304)) (fun _ hk => hk.2) (.int .i64 t305)) (fun _ hk => trivial)⟩
         have n2_ : Aside0 (((w35.setCell ⟨gb307, 0, none⟩ (.int .i64 t304)).setCell ⟨gb307, 1, none⟩ (.int .i64 t305)).heap[gb307]? = some (.cells #[.int .i64 t304, .int .i64 t305] 35 (0, 0))) := ⟨by (with_reducible repeat (first | refine blk_drewN ?_ _ | refine blk_drew ?_ | refine blk_alloc ?_ _)); refine blk_put (cs := #[.int .i64 t304, .int .i64 0]) ?_ 1 _ rfl; (with_reducible repeat (first | refine blk_drewN ?_ _ | refine blk_drew ?_ | refine blk_alloc ?_ _)); refine blk_put (cs := #[.int .i64 0, .int .i64 0]) ?_ 0 _ rfl; (with_reducible repeat (first | refine blk_drewN ?_ _ | refine blk_drew ?_ | refine blk_alloc ?_ _)); exact BK307.out⟩
         have n3_ : Aside0 (Below w.heap.size w ((w35.setCell ⟨gb307, 0, none⟩ (.int .i64 t304)).setCell ⟨gb307, 1, none⟩ (.int .i64 t305))) := ⟨bl_⟩
         (try clear HO_4)
         (try clear HO_17)
         (try clear BK307)
         (try clear HB)
         generalize ((w35.setCell ⟨gb307, 0, none⟩ (.int .i64 t304)).setCell ⟨gb307, 1, none⟩ (.int .i64 t305)) = w37 at n0_ n1_ n2_ n3_ ⊢
         have HO_4 := n0_
         have HO_17 := n1_
         have BK307 := n2_
         have HB := n3_
         clear n0_ n1_ n2_ n3_
         have n0_ := a_ (Kd.R_drew HO_4.out)
         have n1_ := a_ (Kd.R_drew HO_17.out)
         have n2_ := a_ (blk_drew BK307.out)
         have n3_ := a_ (below_drew1 HB.out)
         clear HO_4
         clear HO_17
         clear BK307
         clear HB
         have HO_4 := n0_
         have HO_17 := n1_
         have BK307 := n2_
         have HB := n3_
         clear n0_ n1_ n2_ n3_
         refine start_ (n := 5) (S := fun w' => w'.cell? ⟨gb307, 0, none⟩ = some (.int .i64 t304) ∧ w'.cell? ⟨gb307, 1, none⟩ = some (.int .i64 t305)) (ds := []) #[false, false, false, false, false] (by kernel_rfl) rfl rfl ⟨(blk_cell BK307.out 0).trans rfl, (blk_cell BK307.out 1).trans rfl⟩ (fun hHeld => ?_)
         generalize w37.drew = w38 at HO_4 HO_17 BK307 HB hHeld ⊢
         refine take_ (i := 0) (N := some 34) (v := ?_) (a' := ?_) #[true, false, false, false, false] rfl rfl (by kernel_rfl) (fun _ _ _ h => h) (Or.inl ⟨by rfl, ?_⟩) hHeld ?_ ?_
         rotate_left
         ·rintro w' ⟨s0, s1⟩
          go_simp
          with_reducible rfl
         rotate_left
         ·simp only [Act.put, List.setIfInBounds_toArray, List.set_cons_zero, List.set_cons_succ, i64_w, i32_w]
          rfl
         refine join_ (σ := Nat) 1 #[true, true, true, true, false] (fun s_ => [(35, .agg #[.int .i64 t308, .int .i64 t309]), (12, .pointer (some ⟨s_, 0, none⟩)), (36, .agg #[.int .i64 t304, .int .i64 t305, .int .i64 t308, .int .i64 t309])]) (fun s_ w' => (w'.cell? ⟨gb307, 0, none⟩ = some (.int .i64 t304) ∧ w'.cell? ⟨gb307, 1, none⟩ = some (.int .i64 t305)) ∧ (Kd.R Kd.string 9 w' w.heap.size (fun _ => True) (.slice (some ad300) t295.length co4) t295) ∧ (Kd.R k37 37 w' w.heap.size (fun k_ => k_ ≠ s_) u4 x4_1) ∧ (w'.heap[gb307]? = some (.cells #[.int .i64 t304, .int .i64 t305] 35 (0, 0))) ∧ (w'.heap[s_]? = some (.cells #[.int .i64 0, .int .i64 0, .int .i64 0, .int .i64 0] 37 (0, 0))) ∧ (w.heap.size ≤ s_) ∧ (w.heap.size ≤ s_) ∧ (gb307 ≠ s_) ∧ (s_ ≠ gb307) ∧ (Below w.heap.size w w')) ?_ ?_
         rotate_left
         ·intro hCont
          refine two_ (i := 1) (j := 3) (Ni := some 35) (Nj := some 12) #[true, true, false, false, false] #[true, false, false, true, false] rfl rfl rfl rfl (by kernel_rfl) (by decide) (by decide) (fun K hK => ?_) (fun K hK => ?_)
          ·skip
           refine goes_ Tryz.func27 (by kernel_rfl) rfl #[] (by rfl) rfl rfl tm_ ?_
           with_reducible refine (refill_unknown.calls  t308 t309 _ A10.out).mono ?_
           rintro e w39 ⟨rfl, hb⟩
           refine ⟨_, rfl, ?_⟩
           have n0_ := a_ (Kd.R_below (rl_ HO_4.out) hb)
           have n1_ := a_ (Kd.R_below (rl_ HO_17.out) hb)
           have n2_ := a_ (bb_ BK307.out hb)
           have n3_ := a_ (below_step bl_ hb)
           clear HO_4
           clear HO_17
           clear BK307
           clear HB
           have HO_4 := n0_
           have HO_17 := n1_
           have BK307 := n2_
           have HB := n3_
           clear n0_ n1_ n2_ n3_
           (try clear hb)
           (try clear hb2)
           (try clear hk)
           (try clear hi)
           refine hK.out _ _ ⟨(blk_cell BK307.out 0).trans rfl, (blk_cell BK307.out 1).trans rfl⟩ (fun hHeld => ?_)
           clear hK K
           refine norm_ (a' := ?_) ?_ ?_
           rotate_left
           ·show Act.put _ (some 35) _ = _
            simp only [Act.put, List.setIfInBounds_toArray, List.set_cons_zero, List.set_cons_succ, i64_w, i32_w]
            rfl
           refine pure_ (i := 2) (N := some 36) (v := ?_) (a' := ?_) #[true, true, true, false, false] rfl rfl (by kernel_rfl) (fun _ _ _ h => h) (Or.inl ⟨by rfl, ?_⟩) ?_ ?_
           rotate_left
           ·intro w'
            go_simp
            with_reducible rfl
           rotate_left
           ·simp only [Act.put, List.setIfInBounds_toArray, List.set_cons_zero, List.set_cons_succ, i64_w, i32_w]
            rfl
           refine one_ (i := 3) (N := some 12) #[true, true, true, true, false] rfl rfl (by kernel_rfl) (by decide) (fun K hK => ?_)
           refine box_step ?hg (N := 12) ?hd (cs := #[.int .i64 0, .int .i64 0, .int .i64 0, .int .i64 0]) (t := 37) ?hr ?_; (case hd => rfl); (case hg => rfl); (case hr => first | (go_simp; done) | (go_simp; rfl))
           intro gb310 hg w40 hbox hb
           have n0_ := a_ (Kd.R_below (Kd.R_elderB (rl_ HO_4.out) gb310 (Nat.le_of_eq hg.symm)) hb)
           have n1_ := a_ (Kd.R_below (rl_ HO_17.out) hb)
           have n2_ := a_ (bb_ BK307.out hb)
           have n3_ := a_ (below_step bl_ hb)
           have n4_ := a_ (hbox)
           have n5_ := a_ ((bz_ (w := w) hg))
           have n6_ := a_ ((bz_ (w := w) hg))
           have n7_ := a_ ((nl_ BK307.out hg))
           have n8_ := a_ ((ng_ BK307.out hg))
           clear HO_4
           clear HO_17
           clear BK307
           clear HB
           have HO_4 := n0_
           have HO_17 := n1_
           have BK307 := n2_
           have HB := n3_
           have BK310 := n4_
           have GW310 := n5_
           have GE310 := n6_
           have NB307_310 := n7_
           have NB310_307 := n8_
           clear n0_ n1_ n2_ n3_ n4_ n5_ n6_ n7_ n8_
           clear hb hbox hg
           refine hK.out _ _ ⟨(blk_cell BK307.out 0).trans rfl, (blk_cell BK307.out 1).trans rfl⟩ (fun hHeld => ?_)
           clear hK K
           refine norm_ (a' := ?_) ?_ ?_
           rotate_left
           ·show Act.put _ (some 12) _ = _
            simp only [Act.put, List.setIfInBounds_toArray, List.set_cons_zero, List.set_cons_succ, i64_w, i32_w]
            rfl
           exact norm_ (by simp only [putAll, Act.put, List.setIfInBounds_toArray, List.set_cons_zero, List.set_cons_succ]) (hCont (gb310) _ ⟨hHeld, (rl_ HO_17.out), (rl_ (Kd.R_mono HO_4.out (fun _ hk => hk.2))), (by (with_reducible repeat (first | refine blk_drewN ?_ _ | refine blk_drew ?_ | refine blk_alloc ?_ _)); exact BK307.out), (by (with_reducible repeat (first | refine blk_drewN ?_ _ | refine blk_drew ?_ | refine blk_alloc ?_ _)); exact BK310.out), GW310.out, GE310.out, NB307_310.out, NB310_307.out, bl_⟩)
          ·skip
           refine box_step ?hg (N := 12) ?hd (cs := #[.int .i64 0, .int .i64 0, .int .i64 0, .int .i64 0]) (t := 37) ?hr ?_; (case hd => rfl); (case hg => rfl); (case hr => first | (go_simp; done) | (go_simp; rfl))
           intro gb310 hg w39 hbox hb
           have n0_ := a_ (Kd.R_below (Kd.R_elderB (rl_ HO_4.out) gb310 (Nat.le_of_eq hg.symm)) hb)
           have n1_ := a_ (Kd.R_below (rl_ HO_17.out) hb)
           have n2_ := a_ (bb_ BK307.out hb)
           have n3_ := a_ (below_step bl_ hb)
           have n4_ := a_ (hbox)
           have n5_ := a_ ((bz_ (w := w) hg))
           have n6_ := a_ ((bz_ (w := w) hg))
           have n7_ := a_ ((nl_ BK307.out hg))
           have n8_ := a_ ((ng_ BK307.out hg))
           clear HO_4
           clear HO_17
           clear BK307
           clear HB
           have HO_4 := n0_
           have HO_17 := n1_
           have BK307 := n2_
           have HB := n3_
           have BK310 := n4_
           have GW310 := n5_
           have GE310 := n6_
           have NB307_310 := n7_
           have NB310_307 := n8_
           clear n0_ n1_ n2_ n3_ n4_ n5_ n6_ n7_ n8_
           clear hb hbox hg
           refine hK.out _ _ ⟨(blk_cell BK307.out 0).trans rfl, (blk_cell BK307.out 1).trans rfl⟩ (fun hHeld => ?_)
           clear hK K
           refine norm_ (a' := ?_) ?_ ?_
           rotate_left
           ·show Act.put _ (some 12) _ = _
            simp only [Act.put, List.setIfInBounds_toArray, List.set_cons_zero, List.set_cons_succ, i64_w, i32_w]
            rfl
           refine one_ (i := 1) (N := some 35) #[true, true, false, true, false] rfl rfl (by kernel_rfl) (by decide) (fun K hK => ?_)
           refine goes_ Tryz.func27 (by kernel_rfl) rfl #[] (by rfl) rfl rfl tm_ ?_
           with_reducible refine (refill_unknown.calls  t308 t309 _ A10.out).mono ?_
           rintro e w40 ⟨rfl, hb⟩
           refine ⟨_, rfl, ?_⟩
           have n0_ := a_ (Kd.R_below (rl_ HO_4.out) hb)
           have n1_ := a_ (Kd.R_below (rl_ HO_17.out) hb)
           have n2_ := a_ (bb_ BK307.out hb)
           have n3_ := a_ (bb_ BK310.out hb)
           have n4_ := a_ (below_step bl_ hb)
           clear HO_4
           clear HO_17
           clear BK307
           clear BK310
           clear HB
           have HO_4 := n0_
           have HO_17 := n1_
           have BK307 := n2_
           have BK310 := n3_
           have HB := n4_
           clear n0_ n1_ n2_ n3_ n4_
           (try clear hb)
           (try clear hb2)
           (try clear hk)
           (try clear hi)
           refine hK.out _ _ ⟨(blk_cell BK307.out 0).trans rfl, (blk_cell BK307.out 1).trans rfl⟩ (fun hHeld => ?_)
           clear hK K
           refine norm_ (a' := ?_) ?_ ?_
           rotate_left
           ·show Act.put _ (some 35) _ = _
            simp only [Act.put, List.setIfInBounds_toArray, List.set_cons_zero, List.set_cons_succ, i64_w, i32_w]
            rfl
           refine pure_ (i := 2) (N := some 36) (v := ?_) (a' := ?_) #[true, true, true, true, false] rfl rfl (by kernel_rfl) (fun _ _ _ h => h) (Or.inl ⟨by rfl, ?_⟩) ?_ ?_
           rotate_left
           ·intro w'
            go_simp
            with_reducible rfl
           rotate_left
           ·simp only [Act.put, List.setIfInBounds_toArray, List.set_cons_zero, List.set_cons_succ, i64_w, i32_w]
            rfl
           exact norm_ (by simp only [putAll, Act.put, List.setIfInBounds_toArray, List.set_cons_zero, List.set_cons_succ]) (hCont (gb310) _ ⟨hHeld, (rl_ HO_17.out), (rl_ (Kd.R_mono HO_4.out (fun _ hk => hk.2))), (by (with_reducible repeat (first | refine blk_drewN ?_ _ | refine blk_drew ?_ | refine blk_alloc ?_ _)); exact BK307.out), (by (with_reducible repeat (first | refine blk_drewN ?_ _ | refine blk_drew ?_ | refine blk_alloc ?_ _)); exact BK310.out), GW310.out, GE310.out, NB307_310.out, NB310_307.out, bl_⟩)
         rintro gb310 w41 ⟨hS_, h0_, h1_, h2_, h3_, h4_, h5_, h6_, h7_, h8_⟩
         have n0_ : Aside0 (Kd.R Kd.string 9 w41 w.heap.size (fun _ => True) (.slice (some ad300) t295.length co4) t295) := ⟨h0_⟩
         have n1_ : Aside0 (Kd.R k37 37 w41 w.heap.size (fun k_ => k_ ≠ gb310) u4 x4_1) := ⟨h1_⟩
         have n2_ : Aside0 (w41.heap[gb307]? = some (.cells #[.int .i64 t304, .int .i64 t305] 35 (0, 0))) := ⟨h2_⟩
         have n3_ : Aside0 (w41.heap[gb310]? = some (.cells #[.int .i64 0, .int .i64 0, .int .i64 0, .int .i64 0] 37 (0, 0))) := ⟨h3_⟩
         have n4_ : Aside0 (w.heap.size ≤ gb310) := ⟨h4_⟩
         have n5_ : Aside0 (w.heap.size ≤ gb310) := ⟨h5_⟩
         have n6_ : Aside0 (gb307 ≠ gb310) := ⟨h6_⟩
         have n7_ : Aside0 (gb310 ≠ gb307) := ⟨h7_⟩
         have n8_ : Aside0 (Below w.heap.size w w41) := ⟨h8_⟩
         clear HO_4
         clear HO_17
         clear BK307
         clear HB
         clear h0_ h1_ h2_ h3_ h4_ h5_ h6_ h7_ h8_
         have HO_17 := n0_
         have HO_4 := n1_
         have BK307 := n2_
         have BK310 := n3_
         have GW310 := n4_
         have GE310 := n5_
         have NB307_310 := n6_
         have NB310_307 := n7_
         have HB := n8_
         clear n0_ n1_ n2_ n3_ n4_ n5_ n6_ n7_ n8_
         have hHeld : w41.cell? ⟨gb307, 0, none⟩ = some (.int .i64 t304) ∧ w41.cell? ⟨gb307, 1, none⟩ = some (.int .i64 t305) := hS_
         refine norm_ (a' := ?_) ?_ ?_
         rotate_left
         ·simp only [putAll, Act.put, List.setIfInBounds_toArray, List.set_cons_zero, List.set_cons_succ]
          rfl
         refine one_ (i := 4) (N := none) #[true, true, true, true, true] rfl rfl (by kernel_rfl) (by decide) (fun K hK => ?_)
         have hs42 : w41.cell? ⟨gb310, 0, none⟩ = some (.int .i64 0) := (blk_cell BK310.out 0).trans rfl
         have hfs42 := blk_frozen BK310.out 0
         have hns42_0 := NB307_310.out
         have hms42_0 := NB310_307.out
         have hs43 : w41.cell? ⟨gb310, 1, none⟩ = some (.int .i64 0) := (blk_cell BK310.out 1).trans rfl
         have hfs43 := blk_frozen BK310.out 1
         have hns43_0 := NB307_310.out
         have hms43_0 := NB310_307.out
         have hs44 : w41.cell? ⟨gb310, 2, none⟩ = some (.int .i64 0) := (blk_cell BK310.out 2).trans rfl
         have hfs44 := blk_frozen BK310.out 2
         have hns44_0 := NB307_310.out
         have hms44_0 := NB310_307.out
         have hs45 : w41.cell? ⟨gb310, 3, none⟩ = some (.int .i64 0) := (blk_cell BK310.out 3).trans rfl
         have hfs45 := blk_frozen BK310.out 3
         have hns45_0 := NB307_310.out
         have hms45_0 := NB310_307.out
         refine skip_ (w1 := ?_) (by rfl) rfl ?_ ?_
         rotate_left
         ·go_simp
          rfl
         refine hK.out _ _ ⟨((cell_far (p := ⟨gb310, _, none⟩) NB307_310.out _).trans (((cell_far (p := ⟨gb310, _, none⟩) NB307_310.out _).trans (((cell_far (p := ⟨gb310, _, none⟩) NB307_310.out _).trans (((cell_far (p := ⟨gb310, _, none⟩) NB307_310.out _).trans (hHeld.1)))))))), ((cell_far (p := ⟨gb310, _, none⟩) NB307_310.out _).trans (((cell_far (p := ⟨gb310, _, none⟩) NB307_310.out _).trans (((cell_far (p := ⟨gb310, _, none⟩) NB307_310.out _).trans (((cell_far (p := ⟨gb310, _, none⟩) NB307_310.out _).trans (hHeld.2))))))))⟩ (fun hHeld => ?_)
         clear hK K
         refine done_ (by kernel_rfl) ?_
         try go_wp2_with (first | ((with_reducible refine gate_callee (f := 34) rfl ?_); refine goesL_ (some 40) rfl rfl Tryz.func34 (by kernel_rfl) rfl #[.string t302] rfl tm_ ?_; (with_reducible refine (refill_spanOf.calls t302 t311 t312 false _ ?side1 A12.out).mono ?_); (case side1 => exact TabB.below HT.out bl_); rintro e w46 ⟨rfl, hb⟩; refine ⟨_, rfl, ?_⟩; have n0_ := a_ (Kd.R_below (by (with_reducible repeat (first | apply Kd.R_alloc | apply Kd.R_drewN | apply Kd.R_drew)); exact (Kd.R_mono (Kd.R_far (p := ⟨gb310, 3, none⟩) (Kd.R_far (p := ⟨gb310, 2, none⟩) (Kd.R_far (p := ⟨gb310, 1, none⟩) (Kd.R_far (p := ⟨gb310, 0, none⟩) (Kd.R_mono HO_4.out (fun k_ hk => (⟨hk, hk⟩ : _ ∧ k_ ≠ gb310))) (fun _ hk => hk.2) (.int .i64 t304)) (fun _ hk => hk.2) (.int .i64 t305)) (fun _ hk => hk.2) (.int .i64 t308)) (fun _ hk => hk.2) (.int .i64 t309)) (fun _ h_ => h_.1))) hb); have n1_ := a_ (Kd.R_below (by (with_reducible repeat (first | apply Kd.R_alloc | apply Kd.R_drewN | apply Kd.R_drew)); exact (Kd.R_mono (Kd.R_far (p := ⟨gb310, 3, none⟩) (Kd.R_far (p := ⟨gb310, 2, none⟩) (Kd.R_far (p := ⟨gb310, 1, none⟩) (Kd.R_far (p := ⟨gb310, 0, none⟩) (Kd.R_types HO_17.out BK310.out (by decide)) (fun _ hk => hk.2) (.int .i64 t304)) (fun _ hk => hk.2) (.int .i64 t305)) (fun _ hk => hk.2) (.int .i64 t308)) (fun _ hk => hk.2) (.int .i64 t309)) (fun _ h_ => h_.1))) hb); have n2_ := a_ (blk_below (g := gb307) (o := .cells #[.int .i64 t304, .int .i64 t305] 35 (0, 0)) (by (with_reducible repeat (first | refine blk_drewN ?_ _ | refine blk_drew ?_ | refine blk_alloc ?_ _)); refine blk_far ?_ NB307_310.out _; (with_reducible repeat (first | refine blk_drewN ?_ _ | refine blk_drew ?_ | refine blk_alloc ?_ _)); refine blk_far ?_ NB307_310.out _; (with_reducible repeat (first | refine blk_drewN ?_ _ | refine blk_drew ?_ | refine blk_alloc ?_ _)); refine blk_far ?_ NB307_310.out _; (with_reducible repeat (first | refine blk_drewN ?_ _ | refine blk_drew ?_ | refine blk_alloc ?_ _)); refine blk_far ?_ NB307_310.out _; (with_reducible repeat (first | refine blk_drewN ?_ _ | refine blk_drew ?_ | refine blk_alloc ?_ _)); exact BK307.out) hb); have n3_ := a_ (blk_below (g := gb310) (o := .cells #[.int .i64 t304, .int .i64 t305, .int .i64 t308, .int .i64 t309] 37 (0, 0)) (by (with_reducible repeat (first | refine blk_drewN ?_ _ | refine blk_drew ?_ | refine blk_alloc ?_ _)); refine blk_put (cs := #[.int .i64 t304, .int .i64 t305, .int .i64 t308, .int .i64 0]) ?_ 3 _ rfl; (with_reducible repeat (first | refine blk_drewN ?_ _ | refine blk_drew ?_ | refine blk_alloc ?_ _)); refine blk_put (cs := #[.int .i64 t304, .int .i64 t305, .int .i64 0, .int .i64 0]) ?_ 2 _ rfl; (with_reducible repeat (first | refine blk_drewN ?_ _ | refine blk_drew ?_ | refine blk_alloc ?_ _)); refine blk_put (cs := #[.int .i64 t304, .int .i64 0, .int .i64 0, .int .i64 0]) ?_ 1 _ rfl; (with_reducible repeat (first | refine blk_drewN ?_ _ | refine blk_drew ?_ | refine blk_alloc ?_ _)); refine blk_put (cs := #[.int .i64 0, .int .i64 0, .int .i64 0, .int .i64 0]) ?_ 0 _ rfl; (with_reducible repeat (first | refine blk_drewN ?_ _ | refine blk_drew ?_ | refine blk_alloc ?_ _)); exact BK310.out) hb); have n4_ := a_ (below_step bl_ hb); clear HO_4; clear HO_17; clear BK307; clear BK310; clear HB; have HO_4 := n0_; have HO_17 := n1_; have BK307 := n2_; have BK310 := n3_; have HB := n4_; clear n0_ n1_ n2_ n3_ n4_; (try clear hb); (try clear hb2); (try clear hk); (try clear hi); have hnb47 := NB310_307.out; have hnc47 := NB307_310.out; have hcz48_0 : w46.cell? ⟨gb310, 0, none⟩ = some (.int .i64 t304) := (blk_cell BK310.out 0).trans rfl; have hcz48_1 : w46.cell? ⟨gb310, 1, none⟩ = some (.int .i64 t305) := (blk_cell BK310.out 1).trans rfl; have hcz48_2 : w46.cell? ⟨gb310, 2, none⟩ = some (.int .i64 t308) := (blk_cell BK310.out 2).trans rfl; have hcz48_3 : w46.cell? ⟨gb310, 3, none⟩ = some (.int .i64 t309) := (blk_cell BK310.out 3).trans rfl; have hfz48_0 := blk_frozen BK310.out 0; have hfz48_1 := blk_frozen BK310.out 1; have hfz48_2 := blk_frozen BK310.out 2; have hfz48_3 := blk_frozen BK310.out 3))
         go_ret2
         exact ⟨_, by first | rfl | (simp [errW_none, errW_some] <;> rfl) | (simp [*, errW_none, errW_some] <;> rfl), by first | exact Kd.R_nil _ _ _ _ _ | exact Kd.N_nil _ _ _ _ _ | exact Kd.V_nil _ _ _ _ _ | exact Kd.Q_nil _ _ _ _ _ | exact Kd.S_nil _ _ _ _ _, bl_⟩
       ·replace c13 := Bool.eq_false_iff.mpr c13
        subst c13
        have H1 : (some (([] : List (S37)), 3)) = some (r1, r2) := by rw [if_neg (show ¬ (false = true) by decide)] at H; exact H
        clear H
        have H := H1
        clear H1
        simp only [Option.some.injEq, Prod.mk.injEq] at H
        obtain ⟨rfl, rfl⟩ := H
        have p300 : 0 ≤ (x19_1 : Int) := of_decide_eq_true (by first | (with_reducible assumption) | assumption)
        have q300 : x19_1 < (t295.length : Int) := of_decide_eq_true (by first | (with_reducible assumption) | assumption)
        obtain ⟨ad300, e300, hx300_0⟩ := Kd.at_string (Kd.R_reads' HO_17.out).2.2 x19_1 p300 q300
        cases e300
        replace p300 := eq_true p300
        replace q300 := eq_true q300
        try go_wp2_with (first | ((with_reducible refine gate_callee (f := 33) rfl ?_); refine goesL_ (some 25) rfl rfl Tryz.func33 (by kernel_rfl) rfl #[.string (rdOf ByteArray.empty t295 x19_1), .string (⟨#[64]⟩ : ByteArray)] rfl tm_ ?_; (with_reducible refine (strings_Cut.calls (rdOf ByteArray.empty t295 x19_1) (⟨#[64]⟩ : ByteArray) t301 t302 true _ ?side1 A8.out).mono ?_); (case side1 => exact TabB.below HT.out bl_); rintro e w49 ⟨rfl, hb⟩; refine ⟨_, rfl, ?_⟩; have n0_ := a_ (Kd.R_below (rl_ HO_4.out) hb); have n1_ := a_ (Kd.R_below (rl_ HO_17.out) hb); have n2_ := a_ (below_step bl_ hb); clear HO_4; clear HO_17; clear HB; have HO_4 := n0_; have HO_17 := n1_; have HB := n2_; clear n0_ n1_ n2_; (try clear hb); (try clear hb2); (try clear hk); (try clear hi)) | ((with_reducible refine gate_callee (f := 34) rfl ?_); refine goesL_ (some 31) rfl rfl Tryz.func34 (by kernel_rfl) rfl #[.string t301] rfl tm_ ?_; (with_reducible refine (refill_spanOf.calls t301 t304 t305 false _ ?side1 A9.out).mono ?_); (case side1 => exact TabB.below HT.out bl_); rintro e w50 ⟨rfl, hb⟩; refine ⟨_, rfl, ?_⟩; have n0_ := a_ (Kd.R_below (rl_ HO_4.out) hb); have n1_ := a_ (Kd.R_below (rl_ HO_17.out) hb); have n2_ := a_ (below_step bl_ hb); clear HO_4; clear HO_17; clear HB; have HO_4 := n0_; have HO_17 := n1_; have HB := n2_; clear n0_ n1_ n2_; (try clear hb); (try clear hb2); (try clear hk); (try clear hi)) | ((with_reducible refine gate_dst (N := 10) rfl ?_); refine box_event ?hg (N := 10) ?hd (cs := #[.int .i64 0, .int .i64 0]) (t := 35) ?hr ?_; (case hd => rfl); (case hg => rfl); (case hr => first | (go_simp; done) | (go_simp; rfl)); intro gb307 hg w51 hbox hb; have n0_ := a_ (Kd.R_below (rl_ HO_4.out) hb); have n1_ := a_ (Kd.R_below (rl_ HO_17.out) hb); have n2_ := a_ (below_step bl_ hb); have n3_ := a_ (hbox); have n4_ := a_ ((bz_ (w := w) hg)); have n5_ := a_ ((bz_ (w := w) hg)); clear HO_4; clear HO_17; clear HB; have HO_4 := n0_; have HO_17 := n1_; have HB := n2_; have BK307 := n3_; have GW307 := n4_; have GE307 := n5_; clear n0_ n1_ n2_ n3_ n4_ n5_; clear hb hbox hg; have hcz52_0 : w51.cell? ⟨gb307, 0, none⟩ = some (.int .i64 0) := (blk_cell BK307.out 0).trans rfl; have hcz52_1 : w51.cell? ⟨gb307, 1, none⟩ = some (.int .i64 0) := (blk_cell BK307.out 1).trans rfl; have hfz52_0 := blk_frozen BK307.out 0; have hfz52_1 := blk_frozen BK307.out 1))
        have n0_ : Aside0 (Kd.R k37 37 ((w51.setCell ⟨gb307, 0, none⟩ (.int .i64 t304)).setCell ⟨gb307, 1, none⟩ (.int .i64 t305)) w.heap.size (fun _ => True) u4 x4_1) := ⟨by (with_reducible repeat (first | apply Kd.R_alloc | apply Kd.R_drewN | apply Kd.R_drew)); exact Kd.R_mono (Kd.R_far (p := ⟨gb307, 1, none⟩) (Kd.R_far (p := ⟨gb307, 0, none⟩) (Kd.R_types HO_4.out BK307.out (by decide)) (fun _ hk => hk.2) (.int .i64 t304)) (fun _ hk => hk.2) (.int .i64 t305)) (fun _ hk => trivial)⟩
        have n1_ : Aside0 (Kd.R Kd.string 9 ((w51.setCell ⟨gb307, 0, none⟩ (.int .i64 t304)).setCell ⟨gb307, 1, none⟩ (.int .i64 t305)) w.heap.size (fun _ => True) (.slice (some ad300) t295.length co4) t295) := ⟨by (with_reducible repeat (first | apply Kd.R_alloc | apply Kd.R_drewN | apply Kd.R_drew)); exact Kd.R_mono (Kd.R_far (p := ⟨gb307, 1, none⟩) (Kd.R_far (p := ⟨gb307, 0, none⟩) (Kd.R_types HO_17.out BK307.out (by decide)) (fun _ hk => hk.2) (.int .i64 t304)) (fun _ hk => hk.2) (.int .i64 t305)) (fun _ hk => trivial)⟩
        have n2_ : Aside0 (((w51.setCell ⟨gb307, 0, none⟩ (.int .i64 t304)).setCell ⟨gb307, 1, none⟩ (.int .i64 t305)).heap[gb307]? = some (.cells #[.int .i64 t304, .int .i64 t305] 35 (0, 0))) := ⟨by (with_reducible repeat (first | refine blk_drewN ?_ _ | refine blk_drew ?_ | refine blk_alloc ?_ _)); refine blk_put (cs := #[.int .i64 t304, .int .i64 0]) ?_ 1 _ rfl; (with_reducible repeat (first | refine blk_drewN ?_ _ | refine blk_drew ?_ | refine blk_alloc ?_ _)); refine blk_put (cs := #[.int .i64 0, .int .i64 0]) ?_ 0 _ rfl; (with_reducible repeat (first | refine blk_drewN ?_ _ | refine blk_drew ?_ | refine blk_alloc ?_ _)); exact BK307.out⟩
        have n3_ : Aside0 (Below w.heap.size w ((w51.setCell ⟨gb307, 0, none⟩ (.int .i64 t304)).setCell ⟨gb307, 1, none⟩ (.int .i64 t305))) := ⟨bl_⟩
        (try clear HO_4)
        (try clear HO_17)
        (try clear BK307)
        (try clear HB)
        generalize ((w51.setCell ⟨gb307, 0, none⟩ (.int .i64 t304)).setCell ⟨gb307, 1, none⟩ (.int .i64 t305)) = w53 at n0_ n1_ n2_ n3_ ⊢
        have HO_4 := n0_
        have HO_17 := n1_
        have BK307 := n2_
        have HB := n3_
        clear n0_ n1_ n2_ n3_
        have n0_ := a_ (Kd.R_drew HO_4.out)
        have n1_ := a_ (Kd.R_drew HO_17.out)
        have n2_ := a_ (blk_drew BK307.out)
        have n3_ := a_ (below_drew1 HB.out)
        clear HO_4
        clear HO_17
        clear BK307
        clear HB
        have HO_4 := n0_
        have HO_17 := n1_
        have BK307 := n2_
        have HB := n3_
        clear n0_ n1_ n2_ n3_
        refine start_ (n := 5) (S := fun w' => w'.cell? ⟨gb307, 0, none⟩ = some (.int .i64 t304) ∧ w'.cell? ⟨gb307, 1, none⟩ = some (.int .i64 t305)) (ds := []) #[false, false, false, false, false] (by kernel_rfl) rfl rfl ⟨(blk_cell BK307.out 0).trans rfl, (blk_cell BK307.out 1).trans rfl⟩ (fun hHeld => ?_)
        generalize w53.drew = w54 at HO_4 HO_17 BK307 HB hHeld ⊢
        refine take_ (i := 0) (N := some 34) (v := ?_) (a' := ?_) #[true, false, false, false, false] rfl rfl (by kernel_rfl) (fun _ _ _ h => h) (Or.inl ⟨by rfl, ?_⟩) hHeld ?_ ?_
        rotate_left
        ·rintro w' ⟨s0, s1⟩
         go_simp
         with_reducible rfl
        rotate_left
        ·simp only [Act.put, List.setIfInBounds_toArray, List.set_cons_zero, List.set_cons_succ, i64_w, i32_w]
         rfl
        refine join_ (σ := Nat) 1 #[true, true, true, true, false] (fun s_ => [(35, .agg #[.int .i64 t308, .int .i64 t309]), (12, .pointer (some ⟨s_, 0, none⟩)), (36, .agg #[.int .i64 t304, .int .i64 t305, .int .i64 t308, .int .i64 t309])]) (fun s_ w' => (w'.cell? ⟨gb307, 0, none⟩ = some (.int .i64 t304) ∧ w'.cell? ⟨gb307, 1, none⟩ = some (.int .i64 t305)) ∧ (Kd.R Kd.string 9 w' w.heap.size (fun _ => True) (.slice (some ad300) t295.length co4) t295) ∧ (Kd.R k37 37 w' w.heap.size (fun k_ => k_ ≠ s_) u4 x4_1) ∧ (w'.heap[gb307]? = some (.cells #[.int .i64 t304, .int .i64 t305] 35 (0, 0))) ∧ (w'.heap[s_]? = some (.cells #[.int .i64 0, .int .i64 0, .int .i64 0, .int .i64 0] 37 (0, 0))) ∧ (w.heap.size ≤ s_) ∧ (w.heap.size ≤ s_) ∧ (gb307 ≠ s_) ∧ (s_ ≠ gb307) ∧ (Below w.heap.size w w')) ?_ ?_
        rotate_left
        ·intro hCont
         refine two_ (i := 1) (j := 3) (Ni := some 35) (Nj := some 12) #[true, true, false, false, false] #[true, false, false, true, false] rfl rfl rfl rfl (by kernel_rfl) (by decide) (by decide) (fun K hK => ?_) (fun K hK => ?_)
         ·skip
          refine goes_ Tryz.func27 (by kernel_rfl) rfl #[] (by rfl) rfl rfl tm_ ?_
          with_reducible refine (refill_unknown.calls  t308 t309 _ A10.out).mono ?_
          rintro e w55 ⟨rfl, hb⟩
          refine ⟨_, rfl, ?_⟩
          have n0_ := a_ (Kd.R_below (rl_ HO_4.out) hb)
          have n1_ := a_ (Kd.R_below (rl_ HO_17.out) hb)
          have n2_ := a_ (bb_ BK307.out hb)
          have n3_ := a_ (below_step bl_ hb)
          clear HO_4
          clear HO_17
          clear BK307
          clear HB
          have HO_4 := n0_
          have HO_17 := n1_
          have BK307 := n2_
          have HB := n3_
          clear n0_ n1_ n2_ n3_
          (try clear hb)
          (try clear hb2)
          (try clear hk)
          (try clear hi)
          refine hK.out _ _ ⟨(blk_cell BK307.out 0).trans rfl, (blk_cell BK307.out 1).trans rfl⟩ (fun hHeld => ?_)
          clear hK K
          refine norm_ (a' := ?_) ?_ ?_
          rotate_left
          ·show Act.put _ (some 35) _ = _
           simp only [Act.put, List.setIfInBounds_toArray, List.set_cons_zero, List.set_cons_succ, i64_w, i32_w]
           rfl
          refine pure_ (i := 2) (N := some 36) (v := ?_) (a' := ?_) #[true, true, true, false, false] rfl rfl (by kernel_rfl) (fun _ _ _ h => h) (Or.inl ⟨by rfl, ?_⟩) ?_ ?_
          rotate_left
          ·intro w'
           go_simp
           with_reducible rfl
          rotate_left
          ·simp only [Act.put, List.setIfInBounds_toArray, List.set_cons_zero, List.set_cons_succ, i64_w, i32_w]
           rfl
          refine one_ (i := 3) (N := some 12) #[true, true, true, true, false] rfl rfl (by kernel_rfl) (by decide) (fun K hK => ?_)
          refine box_step ?hg (N := 12) ?hd (cs := #[.int .i64 0, .int .i64 0, .int .i64 0, .int .i64 0]) (t := 37) ?hr ?_; (case hd => rfl); (case hg => rfl); (case hr => first | (go_simp; done) | (go_simp; rfl))
          intro gb310 hg w56 hbox hb
          have n0_ := a_ (Kd.R_below (Kd.R_elderB (rl_ HO_4.out) gb310 (Nat.le_of_eq hg.symm)) hb)
          have n1_ := a_ (Kd.R_below (rl_ HO_17.out) hb)
          have n2_ := a_ (bb_ BK307.out hb)
          have n3_ := a_ (below_step bl_ hb)
          have n4_ := a_ (hbox)
          have n5_ := a_ ((bz_ (w := w) hg))
          have n6_ := a_ ((bz_ (w := w) hg))
          have n7_ := a_ ((nl_ BK307.out hg))
          have n8_ := a_ ((ng_ BK307.out hg))
          clear HO_4
          clear HO_17
          clear BK307
          clear HB
          have HO_4 := n0_
          have HO_17 := n1_
          have BK307 := n2_
          have HB := n3_
          have BK310 := n4_
          have GW310 := n5_
          have GE310 := n6_
          have NB307_310 := n7_
          have NB310_307 := n8_
          clear n0_ n1_ n2_ n3_ n4_ n5_ n6_ n7_ n8_
          clear hb hbox hg
          refine hK.out _ _ ⟨(blk_cell BK307.out 0).trans rfl, (blk_cell BK307.out 1).trans rfl⟩ (fun hHeld => ?_)
          clear hK K
          refine norm_ (a' := ?_) ?_ ?_
          rotate_left
          ·show Act.put _ (some 12) _ = _
           simp only [Act.put, List.setIfInBounds_toArray, List.set_cons_zero, List.set_cons_succ, i64_w, i32_w]
           rfl
          exact norm_ (by simp only [putAll, Act.put, List.setIfInBounds_toArray, List.set_cons_zero, List.set_cons_succ]) (hCont (gb310) _ ⟨hHeld, (rl_ HO_17.out), (rl_ (Kd.R_mono HO_4.out (fun _ hk => hk.2))), (by (with_reducible repeat (first | refine blk_drewN ?_ _ | refine blk_drew ?_ | refine blk_alloc ?_ _)); exact BK307.out), (by (with_reducible repeat (first | refine blk_drewN ?_ _ | refine blk_drew ?_ | refine blk_alloc ?_ _)); exact BK310.out), GW310.out, GE310.out, NB307_310.out, NB310_307.out, bl_⟩)
         ·skip
          refine box_step ?hg (N := 12) ?hd (cs := #[.int .i64 0, .int .i64 0, .int .i64 0, .int .i64 0]) (t := 37) ?hr ?_; (case hd => rfl); (case hg => rfl); (case hr => first | (go_simp; done) | (go_simp; rfl))
          intro gb310 hg w55 hbox hb
          have n0_ := a_ (Kd.R_below (Kd.R_elderB (rl_ HO_4.out) gb310 (Nat.le_of_eq hg.symm)) hb)
          have n1_ := a_ (Kd.R_below (rl_ HO_17.out) hb)
          have n2_ := a_ (bb_ BK307.out hb)
          have n3_ := a_ (below_step bl_ hb)
          have n4_ := a_ (hbox)
          have n5_ := a_ ((bz_ (w := w) hg))
          have n6_ := a_ ((bz_ (w := w) hg))
          have n7_ := a_ ((nl_ BK307.out hg))
          have n8_ := a_ ((ng_ BK307.out hg))
          clear HO_4
          clear HO_17
          clear BK307
          clear HB
          have HO_4 := n0_
          have HO_17 := n1_
          have BK307 := n2_
          have HB := n3_
          have BK310 := n4_
          have GW310 := n5_
          have GE310 := n6_
          have NB307_310 := n7_
          have NB310_307 := n8_
          clear n0_ n1_ n2_ n3_ n4_ n5_ n6_ n7_ n8_
          clear hb hbox hg
          refine hK.out _ _ ⟨(blk_cell BK307.out 0).trans rfl, (blk_cell BK307.out 1).trans rfl⟩ (fun hHeld => ?_)
          clear hK K
          refine norm_ (a' := ?_) ?_ ?_
          rotate_left
          ·show Act.put _ (some 12) _ = _
           simp only [Act.put, List.setIfInBounds_toArray, List.set_cons_zero, List.set_cons_succ, i64_w, i32_w]
           rfl
          refine one_ (i := 1) (N := some 35) #[true, true, false, true, false] rfl rfl (by kernel_rfl) (by decide) (fun K hK => ?_)
          refine goes_ Tryz.func27 (by kernel_rfl) rfl #[] (by rfl) rfl rfl tm_ ?_
          with_reducible refine (refill_unknown.calls  t308 t309 _ A10.out).mono ?_
          rintro e w56 ⟨rfl, hb⟩
          refine ⟨_, rfl, ?_⟩
          have n0_ := a_ (Kd.R_below (rl_ HO_4.out) hb)
          have n1_ := a_ (Kd.R_below (rl_ HO_17.out) hb)
          have n2_ := a_ (bb_ BK307.out hb)
          have n3_ := a_ (bb_ BK310.out hb)
          have n4_ := a_ (below_step bl_ hb)
          clear HO_4
          clear HO_17
          clear BK307
          clear BK310
          clear HB
          have HO_4 := n0_
          have HO_17 := n1_
          have BK307 := n2_
          have BK310 := n3_
          have HB := n4_
          clear n0_ n1_ n2_ n3_ n4_
          (try clear hb)
          (try clear hb2)
          (try clear hk)
          (try clear hi)
          refine hK.out _ _ ⟨(blk_cell BK307.out 0).trans rfl, (blk_cell BK307.out 1).trans rfl⟩ (fun hHeld => ?_)
          clear hK K
          refine norm_ (a' := ?_) ?_ ?_
          rotate_left
          ·show Act.put _ (some 35) _ = _
           simp only [Act.put, List.setIfInBounds_toArray, List.set_cons_zero, List.set_cons_succ, i64_w, i32_w]
           rfl
          refine pure_ (i := 2) (N := some 36) (v := ?_) (a' := ?_) #[true, true, true, true, false] rfl rfl (by kernel_rfl) (fun _ _ _ h => h) (Or.inl ⟨by rfl, ?_⟩) ?_ ?_
          rotate_left
          ·intro w'
           go_simp
           with_reducible rfl
          rotate_left
          ·simp only [Act.put, List.setIfInBounds_toArray, List.set_cons_zero, List.set_cons_succ, i64_w, i32_w]
           rfl
          exact norm_ (by simp only [putAll, Act.put, List.setIfInBounds_toArray, List.set_cons_zero, List.set_cons_succ]) (hCont (gb310) _ ⟨hHeld, (rl_ HO_17.out), (rl_ (Kd.R_mono HO_4.out (fun _ hk => hk.2))), (by (with_reducible repeat (first | refine blk_drewN ?_ _ | refine blk_drew ?_ | refine blk_alloc ?_ _)); exact BK307.out), (by (with_reducible repeat (first | refine blk_drewN ?_ _ | refine blk_drew ?_ | refine blk_alloc ?_ _)); exact BK310.out), GW310.out, GE310.out, NB307_310.out, NB310_307.out, bl_⟩)
        rintro gb310 w57 ⟨hS_, h0_, h1_, h2_, h3_, h4_, h5_, h6_, h7_, h8_⟩
        have n0_ : Aside0 (Kd.R Kd.string 9 w57 w.heap.size (fun _ => True) (.slice (some ad300) t295.length co4) t295) := ⟨h0_⟩
        have n1_ : Aside0 (Kd.R k37 37 w57 w.heap.size (fun k_ => k_ ≠ gb310) u4 x4_1) := ⟨h1_⟩
        have n2_ : Aside0 (w57.heap[gb307]? = some (.cells #[.int .i64 t304, .int .i64 t305] 35 (0, 0))) := ⟨h2_⟩
        have n3_ : Aside0 (w57.heap[gb310]? = some (.cells #[.int .i64 0, .int .i64 0, .int .i64 0, .int .i64 0] 37 (0, 0))) := ⟨h3_⟩
        have n4_ : Aside0 (w.heap.size ≤ gb310) := ⟨h4_⟩
        have n5_ : Aside0 (w.heap.size ≤ gb310) := ⟨h5_⟩
        have n6_ : Aside0 (gb307 ≠ gb310) := ⟨h6_⟩
        have n7_ : Aside0 (gb310 ≠ gb307) := ⟨h7_⟩
        have n8_ : Aside0 (Below w.heap.size w w57) := ⟨h8_⟩
        clear HO_4
        clear HO_17
        clear BK307
        clear HB
        clear h0_ h1_ h2_ h3_ h4_ h5_ h6_ h7_ h8_
        have HO_17 := n0_
        have HO_4 := n1_
        have BK307 := n2_
        have BK310 := n3_
        have GW310 := n4_
        have GE310 := n5_
        have NB307_310 := n6_
        have NB310_307 := n7_
        have HB := n8_
        clear n0_ n1_ n2_ n3_ n4_ n5_ n6_ n7_ n8_
        have hHeld : w57.cell? ⟨gb307, 0, none⟩ = some (.int .i64 t304) ∧ w57.cell? ⟨gb307, 1, none⟩ = some (.int .i64 t305) := hS_
        refine norm_ (a' := ?_) ?_ ?_
        rotate_left
        ·simp only [putAll, Act.put, List.setIfInBounds_toArray, List.set_cons_zero, List.set_cons_succ]
         rfl
        refine one_ (i := 4) (N := none) #[true, true, true, true, true] rfl rfl (by kernel_rfl) (by decide) (fun K hK => ?_)
        have hs58 : w57.cell? ⟨gb310, 0, none⟩ = some (.int .i64 0) := (blk_cell BK310.out 0).trans rfl
        have hfs58 := blk_frozen BK310.out 0
        have hns58_0 := NB307_310.out
        have hms58_0 := NB310_307.out
        have hs59 : w57.cell? ⟨gb310, 1, none⟩ = some (.int .i64 0) := (blk_cell BK310.out 1).trans rfl
        have hfs59 := blk_frozen BK310.out 1
        have hns59_0 := NB307_310.out
        have hms59_0 := NB310_307.out
        have hs60 : w57.cell? ⟨gb310, 2, none⟩ = some (.int .i64 0) := (blk_cell BK310.out 2).trans rfl
        have hfs60 := blk_frozen BK310.out 2
        have hns60_0 := NB307_310.out
        have hms60_0 := NB310_307.out
        have hs61 : w57.cell? ⟨gb310, 3, none⟩ = some (.int .i64 0) := (blk_cell BK310.out 3).trans rfl
        have hfs61 := blk_frozen BK310.out 3
        have hns61_0 := NB307_310.out
        have hms61_0 := NB310_307.out
        refine skip_ (w1 := ?_) (by rfl) rfl ?_ ?_
        rotate_left
        ·go_simp
         rfl
        refine hK.out _ _ ⟨((cell_far (p := ⟨gb310, _, none⟩) NB307_310.out _).trans (((cell_far (p := ⟨gb310, _, none⟩) NB307_310.out _).trans (((cell_far (p := ⟨gb310, _, none⟩) NB307_310.out _).trans (((cell_far (p := ⟨gb310, _, none⟩) NB307_310.out _).trans (hHeld.1)))))))), ((cell_far (p := ⟨gb310, _, none⟩) NB307_310.out _).trans (((cell_far (p := ⟨gb310, _, none⟩) NB307_310.out _).trans (((cell_far (p := ⟨gb310, _, none⟩) NB307_310.out _).trans (((cell_far (p := ⟨gb310, _, none⟩) NB307_310.out _).trans (hHeld.2))))))))⟩ (fun hHeld => ?_)
        clear hK K
        refine done_ (by kernel_rfl) ?_
        try go_wp2_with (first | ((with_reducible refine gate_callee (f := 34) rfl ?_); refine goesL_ (some 40) rfl rfl Tryz.func34 (by kernel_rfl) rfl #[.string t302] rfl tm_ ?_; (with_reducible refine (refill_spanOf.calls t302 t311 t312 t313 _ ?side1 A12.out).mono ?_); (case side1 => exact TabB.below HT.out bl_); rintro e w62 ⟨rfl, hb⟩; refine ⟨_, rfl, ?_⟩; have n0_ := a_ (Kd.R_below (by (with_reducible repeat (first | apply Kd.R_alloc | apply Kd.R_drewN | apply Kd.R_drew)); exact (Kd.R_mono (Kd.R_far (p := ⟨gb310, 3, none⟩) (Kd.R_far (p := ⟨gb310, 2, none⟩) (Kd.R_far (p := ⟨gb310, 1, none⟩) (Kd.R_far (p := ⟨gb310, 0, none⟩) (Kd.R_mono HO_4.out (fun k_ hk => (⟨hk, hk⟩ : _ ∧ k_ ≠ gb310))) (fun _ hk => hk.2) (.int .i64 t304)) (fun _ hk => hk.2) (.int .i64 t305)) (fun _ hk => hk.2) (.int .i64 t308)) (fun _ hk => hk.2) (.int .i64 t309)) (fun _ h_ => h_.1))) hb); have n1_ := a_ (Kd.R_below (by (with_reducible repeat (first | apply Kd.R_alloc | apply Kd.R_drewN | apply Kd.R_drew)); exact (Kd.R_mono (Kd.R_far (p := ⟨gb310, 3, none⟩) (Kd.R_far (p := ⟨gb310, 2, none⟩) (Kd.R_far (p := ⟨gb310, 1, none⟩) (Kd.R_far (p := ⟨gb310, 0, none⟩) (Kd.R_types HO_17.out BK310.out (by decide)) (fun _ hk => hk.2) (.int .i64 t304)) (fun _ hk => hk.2) (.int .i64 t305)) (fun _ hk => hk.2) (.int .i64 t308)) (fun _ hk => hk.2) (.int .i64 t309)) (fun _ h_ => h_.1))) hb); have n2_ := a_ (blk_below (g := gb307) (o := .cells #[.int .i64 t304, .int .i64 t305] 35 (0, 0)) (by (with_reducible repeat (first | refine blk_drewN ?_ _ | refine blk_drew ?_ | refine blk_alloc ?_ _)); refine blk_far ?_ NB307_310.out _; (with_reducible repeat (first | refine blk_drewN ?_ _ | refine blk_drew ?_ | refine blk_alloc ?_ _)); refine blk_far ?_ NB307_310.out _; (with_reducible repeat (first | refine blk_drewN ?_ _ | refine blk_drew ?_ | refine blk_alloc ?_ _)); refine blk_far ?_ NB307_310.out _; (with_reducible repeat (first | refine blk_drewN ?_ _ | refine blk_drew ?_ | refine blk_alloc ?_ _)); refine blk_far ?_ NB307_310.out _; (with_reducible repeat (first | refine blk_drewN ?_ _ | refine blk_drew ?_ | refine blk_alloc ?_ _)); exact BK307.out) hb); have n3_ := a_ (blk_below (g := gb310) (o := .cells #[.int .i64 t304, .int .i64 t305, .int .i64 t308, .int .i64 t309] 37 (0, 0)) (by (with_reducible repeat (first | refine blk_drewN ?_ _ | refine blk_drew ?_ | refine blk_alloc ?_ _)); refine blk_put (cs := #[.int .i64 t304, .int .i64 t305, .int .i64 t308, .int .i64 0]) ?_ 3 _ rfl; (with_reducible repeat (first | refine blk_drewN ?_ _ | refine blk_drew ?_ | refine blk_alloc ?_ _)); refine blk_put (cs := #[.int .i64 t304, .int .i64 t305, .int .i64 0, .int .i64 0]) ?_ 2 _ rfl; (with_reducible repeat (first | refine blk_drewN ?_ _ | refine blk_drew ?_ | refine blk_alloc ?_ _)); refine blk_put (cs := #[.int .i64 t304, .int .i64 0, .int .i64 0, .int .i64 0]) ?_ 1 _ rfl; (with_reducible repeat (first | refine blk_drewN ?_ _ | refine blk_drew ?_ | refine blk_alloc ?_ _)); refine blk_put (cs := #[.int .i64 0, .int .i64 0, .int .i64 0, .int .i64 0]) ?_ 0 _ rfl; (with_reducible repeat (first | refine blk_drewN ?_ _ | refine blk_drew ?_ | refine blk_alloc ?_ _)); exact BK310.out) hb); have n4_ := a_ (below_step bl_ hb); clear HO_4; clear HO_17; clear BK307; clear BK310; clear HB; have HO_4 := n0_; have HO_17 := n1_; have BK307 := n2_; have BK310 := n3_; have HB := n4_; clear n0_ n1_ n2_ n3_ n4_; (try clear hb); (try clear hb2); (try clear hk); (try clear hi); have hnb63 := NB310_307.out; have hnc63 := NB307_310.out; have hcz64_0 : w62.cell? ⟨gb310, 0, none⟩ = some (.int .i64 t304) := (blk_cell BK310.out 0).trans rfl; have hcz64_1 : w62.cell? ⟨gb310, 1, none⟩ = some (.int .i64 t305) := (blk_cell BK310.out 1).trans rfl; have hcz64_2 : w62.cell? ⟨gb310, 2, none⟩ = some (.int .i64 t308) := (blk_cell BK310.out 2).trans rfl; have hcz64_3 : w62.cell? ⟨gb310, 3, none⟩ = some (.int .i64 t309) := (blk_cell BK310.out 3).trans rfl; have hfz64_0 := blk_frozen BK310.out 0; have hfz64_1 := blk_frozen BK310.out 1; have hfz64_2 := blk_frozen BK310.out 2; have hfz64_3 := blk_frozen BK310.out 3))
        go_ret2
        exact ⟨_, by first | rfl | (simp [errW_none, errW_some] <;> rfl) | (simp [*, errW_none, errW_some] <;> rfl), by first | exact Kd.R_nil _ _ _ _ _ | exact Kd.N_nil _ _ _ _ _ | exact Kd.V_nil _ _ _ _ _ | exact Kd.Q_nil _ _ _ _ _ | exact Kd.S_nil _ _ _ _ _, bl_⟩
      ·replace c11 := Bool.eq_false_iff.mpr c11
       subst c11
       have H1 : (if t306 = true then (if x4_1.length < 4398046511104 then (refill_Parse.l0 k1 a0 (x4_1 ++ [(⟨(⟨t304, t305⟩ : S35), (⟨t308, t309⟩ : S35)⟩ : S37)]) t295 (t295.length : Int) (wrap64 (x19_1 + 1))) else (none)) else (some (([] : List (S37)), 3))) = some (r1, r2) := by rw [if_neg (show ¬ (false = true) by decide)] at H; exact H
       clear H
       have H := H1
       clear H1
       by_cases c65 : t306 = true
       ·subst c65
        have H1 : (if x4_1.length < 4398046511104 then (refill_Parse.l0 k1 a0 (x4_1 ++ [(⟨(⟨t304, t305⟩ : S35), (⟨t308, t309⟩ : S35)⟩ : S37)]) t295 (t295.length : Int) (wrap64 (x19_1 + 1))) else (none)) = some (r1, r2) := by rw [if_pos rfl] at H; exact H
        clear H
        have H := H1
        clear H1
        by_cases c66 : x4_1.length < 4398046511104
        ·rw [if_pos c66] at H
         have LMc66 := a_ c66
         clear c66
         obtain ⟨y317, hy317⟩ : ∃ y_ : List (S37), y_ = (x4_1 ++ [(⟨(⟨t304, t305⟩ : S35), (⟨t308, t309⟩ : S35)⟩ : S37)]) := ⟨_, rfl⟩
         replace H : (refill_Parse.l0 k1 a0 y317 t295 (t295.length : Int) (wrap64 (x19_1 + 1))) = some (r1, r2) := by first | (rw [hy317]; with_reducible exact H) | (have H2_ := (Option.bind_some _ _).symm.trans H; rw [hy317]; with_reducible exact H2_) | (have H2_ := (Option.bind_some _ _).symm.trans H; with_reducible exact H2_) | with_reducible exact H | (rw [hy317]; exact H) | exact H
         have Ny317 := a_ hy317
         clear hy317
         have H' := a_ H
         clear H
         have p300 : 0 ≤ (x19_1 : Int) := of_decide_eq_true (by first | (with_reducible assumption) | assumption)
         have q300 : x19_1 < (t295.length : Int) := of_decide_eq_true (by first | (with_reducible assumption) | assumption)
         obtain ⟨ad300, e300, hx300_0⟩ := Kd.at_string (Kd.R_reads' HO_17.out).2.2 x19_1 p300 q300
         cases e300
         replace p300 := eq_true p300
         replace q300 := eq_true q300
         try go_wp2_with (first | ((with_reducible refine gate_callee (f := 33) rfl ?_); refine goesL_ (some 25) rfl rfl Tryz.func33 (by kernel_rfl) rfl #[.string (rdOf ByteArray.empty t295 x19_1), .string (⟨#[64]⟩ : ByteArray)] rfl tm_ ?_; (with_reducible refine (strings_Cut.calls (rdOf ByteArray.empty t295 x19_1) (⟨#[64]⟩ : ByteArray) t301 t302 false _ ?side1 A8.out).mono ?_); (case side1 => exact TabB.below HT.out bl_); rintro e w67 ⟨rfl, hb⟩; refine ⟨_, rfl, ?_⟩; have n0_ := a_ (Kd.R_below (rl_ HO_4.out) hb); have n1_ := a_ (Kd.R_below (rl_ HO_17.out) hb); have n2_ := a_ (below_step bl_ hb); clear HO_4; clear HO_17; clear HB; have HO_4 := n0_; have HO_17 := n1_; have HB := n2_; clear n0_ n1_ n2_; (try clear hb); (try clear hb2); (try clear hk); (try clear hi)) | ((with_reducible refine gate_callee (f := 34) rfl ?_); refine goesL_ (some 31) rfl rfl Tryz.func34 (by kernel_rfl) rfl #[.string t301] rfl tm_ ?_; (with_reducible refine (refill_spanOf.calls t301 t304 t305 true _ ?side1 A9.out).mono ?_); (case side1 => exact TabB.below HT.out bl_); rintro e w68 ⟨rfl, hb⟩; refine ⟨_, rfl, ?_⟩; have n0_ := a_ (Kd.R_below (rl_ HO_4.out) hb); have n1_ := a_ (Kd.R_below (rl_ HO_17.out) hb); have n2_ := a_ (below_step bl_ hb); clear HO_4; clear HO_17; clear HB; have HO_4 := n0_; have HO_17 := n1_; have HB := n2_; clear n0_ n1_ n2_; (try clear hb); (try clear hb2); (try clear hk); (try clear hi)) | ((with_reducible refine gate_dst (N := 10) rfl ?_); refine box_event ?hg (N := 10) ?hd (cs := #[.int .i64 0, .int .i64 0]) (t := 35) ?hr ?_; (case hd => rfl); (case hg => rfl); (case hr => first | (go_simp; done) | (go_simp; rfl)); intro gb307 hg w69 hbox hb; have n0_ := a_ (Kd.R_below (rl_ HO_4.out) hb); have n1_ := a_ (Kd.R_below (rl_ HO_17.out) hb); have n2_ := a_ (below_step bl_ hb); have n3_ := a_ (hbox); have n4_ := a_ ((bz_ (w := w) hg)); have n5_ := a_ ((bz_ (w := w) hg)); clear HO_4; clear HO_17; clear HB; have HO_4 := n0_; have HO_17 := n1_; have HB := n2_; have BK307 := n3_; have GW307 := n4_; have GE307 := n5_; clear n0_ n1_ n2_ n3_ n4_ n5_; clear hb hbox hg; have hcz70_0 : w69.cell? ⟨gb307, 0, none⟩ = some (.int .i64 0) := (blk_cell BK307.out 0).trans rfl; have hcz70_1 : w69.cell? ⟨gb307, 1, none⟩ = some (.int .i64 0) := (blk_cell BK307.out 1).trans rfl; have hfz70_0 := blk_frozen BK307.out 0; have hfz70_1 := blk_frozen BK307.out 1))
         have n0_ : Aside0 (Kd.R k37 37 ((w69.setCell ⟨gb307, 0, none⟩ (.int .i64 t304)).setCell ⟨gb307, 1, none⟩ (.int .i64 t305)) w.heap.size (fun _ => True) u4 x4_1) := ⟨by (with_reducible repeat (first | apply Kd.R_alloc | apply Kd.R_drewN | apply Kd.R_drew)); exact Kd.R_mono (Kd.R_far (p := ⟨gb307, 1, none⟩) (Kd.R_far (p := ⟨gb307, 0, none⟩) (Kd.R_types HO_4.out BK307.out (by decide)) (fun _ hk => hk.2) (.int .i64 t304)) (fun _ hk => hk.2) (.int .i64 t305)) (fun _ hk => trivial)⟩
         have n1_ : Aside0 (Kd.R Kd.string 9 ((w69.setCell ⟨gb307, 0, none⟩ (.int .i64 t304)).setCell ⟨gb307, 1, none⟩ (.int .i64 t305)) w.heap.size (fun _ => True) (.slice (some ad300) t295.length co4) t295) := ⟨by (with_reducible repeat (first | apply Kd.R_alloc | apply Kd.R_drewN | apply Kd.R_drew)); exact Kd.R_mono (Kd.R_far (p := ⟨gb307, 1, none⟩) (Kd.R_far (p := ⟨gb307, 0, none⟩) (Kd.R_types HO_17.out BK307.out (by decide)) (fun _ hk => hk.2) (.int .i64 t304)) (fun _ hk => hk.2) (.int .i64 t305)) (fun _ hk => trivial)⟩
         have n2_ : Aside0 (((w69.setCell ⟨gb307, 0, none⟩ (.int .i64 t304)).setCell ⟨gb307, 1, none⟩ (.int .i64 t305)).heap[gb307]? = some (.cells #[.int .i64 t304, .int .i64 t305] 35 (0, 0))) := ⟨by (with_reducible repeat (first | refine blk_drewN ?_ _ | refine blk_drew ?_ | refine blk_alloc ?_ _)); refine blk_put (cs := #[.int .i64 t304, .int .i64 0]) ?_ 1 _ rfl; (with_reducible repeat (first | refine blk_drewN ?_ _ | refine blk_drew ?_ | refine blk_alloc ?_ _)); refine blk_put (cs := #[.int .i64 0, .int .i64 0]) ?_ 0 _ rfl; (with_reducible repeat (first | refine blk_drewN ?_ _ | refine blk_drew ?_ | refine blk_alloc ?_ _)); exact BK307.out⟩
         have n3_ : Aside0 (Below w.heap.size w ((w69.setCell ⟨gb307, 0, none⟩ (.int .i64 t304)).setCell ⟨gb307, 1, none⟩ (.int .i64 t305))) := ⟨bl_⟩
         (try clear HO_4)
         (try clear HO_17)
         (try clear BK307)
         (try clear HB)
         generalize ((w69.setCell ⟨gb307, 0, none⟩ (.int .i64 t304)).setCell ⟨gb307, 1, none⟩ (.int .i64 t305)) = w71 at n0_ n1_ n2_ n3_ ⊢
         have HO_4 := n0_
         have HO_17 := n1_
         have BK307 := n2_
         have HB := n3_
         clear n0_ n1_ n2_ n3_
         have n0_ := a_ (Kd.R_drew HO_4.out)
         have n1_ := a_ (Kd.R_drew HO_17.out)
         have n2_ := a_ (blk_drew BK307.out)
         have n3_ := a_ (below_drew1 HB.out)
         clear HO_4
         clear HO_17
         clear BK307
         clear HB
         have HO_4 := n0_
         have HO_17 := n1_
         have BK307 := n2_
         have HB := n3_
         clear n0_ n1_ n2_ n3_
         refine start_ (n := 5) (S := fun w' => w'.cell? ⟨gb307, 0, none⟩ = some (.int .i64 t304) ∧ w'.cell? ⟨gb307, 1, none⟩ = some (.int .i64 t305)) (ds := []) #[false, false, false, false, false] (by kernel_rfl) rfl rfl ⟨(blk_cell BK307.out 0).trans rfl, (blk_cell BK307.out 1).trans rfl⟩ (fun hHeld => ?_)
         generalize w71.drew = w72 at HO_4 HO_17 BK307 HB hHeld ⊢
         refine take_ (i := 0) (N := some 34) (v := ?_) (a' := ?_) #[true, false, false, false, false] rfl rfl (by kernel_rfl) (fun _ _ _ h => h) (Or.inl ⟨by rfl, ?_⟩) hHeld ?_ ?_
         rotate_left
         ·rintro w' ⟨s0, s1⟩
          go_simp
          with_reducible rfl
         rotate_left
         ·simp only [Act.put, List.setIfInBounds_toArray, List.set_cons_zero, List.set_cons_succ, i64_w, i32_w]
          rfl
         refine join_ (σ := Nat) 1 #[true, true, true, true, false] (fun s_ => [(35, .agg #[.int .i64 t308, .int .i64 t309]), (12, .pointer (some ⟨s_, 0, none⟩)), (36, .agg #[.int .i64 t304, .int .i64 t305, .int .i64 t308, .int .i64 t309])]) (fun s_ w' => (w'.cell? ⟨gb307, 0, none⟩ = some (.int .i64 t304) ∧ w'.cell? ⟨gb307, 1, none⟩ = some (.int .i64 t305)) ∧ (Kd.R Kd.string 9 w' w.heap.size (fun _ => True) (.slice (some ad300) t295.length co4) t295) ∧ (Kd.R k37 37 w' w.heap.size (fun k_ => k_ ≠ s_) u4 x4_1) ∧ (w'.heap[gb307]? = some (.cells #[.int .i64 t304, .int .i64 t305] 35 (0, 0))) ∧ (w'.heap[s_]? = some (.cells #[.int .i64 0, .int .i64 0, .int .i64 0, .int .i64 0] 37 (0, 0))) ∧ (w.heap.size ≤ s_) ∧ (w.heap.size ≤ s_) ∧ (gb307 ≠ s_) ∧ (s_ ≠ gb307) ∧ (Below w.heap.size w w')) ?_ ?_
         rotate_left
         ·intro hCont
          refine two_ (i := 1) (j := 3) (Ni := some 35) (Nj := some 12) #[true, true, false, false, false] #[true, false, false, true, false] rfl rfl rfl rfl (by kernel_rfl) (by decide) (by decide) (fun K hK => ?_) (fun K hK => ?_)
          ·skip
           refine goes_ Tryz.func27 (by kernel_rfl) rfl #[] (by rfl) rfl rfl tm_ ?_
           with_reducible refine (refill_unknown.calls  t308 t309 _ A10.out).mono ?_
           rintro e w73 ⟨rfl, hb⟩
           refine ⟨_, rfl, ?_⟩
           have n0_ := a_ (Kd.R_below (rl_ HO_4.out) hb)
           have n1_ := a_ (Kd.R_below (rl_ HO_17.out) hb)
           have n2_ := a_ (bb_ BK307.out hb)
           have n3_ := a_ (below_step bl_ hb)
           clear HO_4
           clear HO_17
           clear BK307
           clear HB
           have HO_4 := n0_
           have HO_17 := n1_
           have BK307 := n2_
           have HB := n3_
           clear n0_ n1_ n2_ n3_
           (try clear hb)
           (try clear hb2)
           (try clear hk)
           (try clear hi)
           refine hK.out _ _ ⟨(blk_cell BK307.out 0).trans rfl, (blk_cell BK307.out 1).trans rfl⟩ (fun hHeld => ?_)
           clear hK K
           refine norm_ (a' := ?_) ?_ ?_
           rotate_left
           ·show Act.put _ (some 35) _ = _
            simp only [Act.put, List.setIfInBounds_toArray, List.set_cons_zero, List.set_cons_succ, i64_w, i32_w]
            rfl
           refine pure_ (i := 2) (N := some 36) (v := ?_) (a' := ?_) #[true, true, true, false, false] rfl rfl (by kernel_rfl) (fun _ _ _ h => h) (Or.inl ⟨by rfl, ?_⟩) ?_ ?_
           rotate_left
           ·intro w'
            go_simp
            with_reducible rfl
           rotate_left
           ·simp only [Act.put, List.setIfInBounds_toArray, List.set_cons_zero, List.set_cons_succ, i64_w, i32_w]
            rfl
           refine one_ (i := 3) (N := some 12) #[true, true, true, true, false] rfl rfl (by kernel_rfl) (by decide) (fun K hK => ?_)
           refine box_step ?hg (N := 12) ?hd (cs := #[.int .i64 0, .int .i64 0, .int .i64 0, .int .i64 0]) (t := 37) ?hr ?_; (case hd => rfl); (case hg => rfl); (case hr => first | (go_simp; done) | (go_simp; rfl))
           intro gb310 hg w74 hbox hb
           have n0_ := a_ (Kd.R_below (Kd.R_elderB (rl_ HO_4.out) gb310 (Nat.le_of_eq hg.symm)) hb)
           have n1_ := a_ (Kd.R_below (rl_ HO_17.out) hb)
           have n2_ := a_ (bb_ BK307.out hb)
           have n3_ := a_ (below_step bl_ hb)
           have n4_ := a_ (hbox)
           have n5_ := a_ ((bz_ (w := w) hg))
           have n6_ := a_ ((bz_ (w := w) hg))
           have n7_ := a_ ((nl_ BK307.out hg))
           have n8_ := a_ ((ng_ BK307.out hg))
           clear HO_4
           clear HO_17
           clear BK307
           clear HB
           have HO_4 := n0_
           have HO_17 := n1_
           have BK307 := n2_
           have HB := n3_
           have BK310 := n4_
           have GW310 := n5_
           have GE310 := n6_
           have NB307_310 := n7_
           have NB310_307 := n8_
           clear n0_ n1_ n2_ n3_ n4_ n5_ n6_ n7_ n8_
           clear hb hbox hg
           refine hK.out _ _ ⟨(blk_cell BK307.out 0).trans rfl, (blk_cell BK307.out 1).trans rfl⟩ (fun hHeld => ?_)
           clear hK K
           refine norm_ (a' := ?_) ?_ ?_
           rotate_left
           ·show Act.put _ (some 12) _ = _
            simp only [Act.put, List.setIfInBounds_toArray, List.set_cons_zero, List.set_cons_succ, i64_w, i32_w]
            rfl
           exact norm_ (by simp only [putAll, Act.put, List.setIfInBounds_toArray, List.set_cons_zero, List.set_cons_succ]) (hCont (gb310) _ ⟨hHeld, (rl_ HO_17.out), (rl_ (Kd.R_mono HO_4.out (fun _ hk => hk.2))), (by (with_reducible repeat (first | refine blk_drewN ?_ _ | refine blk_drew ?_ | refine blk_alloc ?_ _)); exact BK307.out), (by (with_reducible repeat (first | refine blk_drewN ?_ _ | refine blk_drew ?_ | refine blk_alloc ?_ _)); exact BK310.out), GW310.out, GE310.out, NB307_310.out, NB310_307.out, bl_⟩)
          ·skip
           refine box_step ?hg (N := 12) ?hd (cs := #[.int .i64 0, .int .i64 0, .int .i64 0, .int .i64 0]) (t := 37) ?hr ?_; (case hd => rfl); (case hg => rfl); (case hr => first | (go_simp; done) | (go_simp; rfl))
           intro gb310 hg w73 hbox hb
           have n0_ := a_ (Kd.R_below (Kd.R_elderB (rl_ HO_4.out) gb310 (Nat.le_of_eq hg.symm)) hb)
           have n1_ := a_ (Kd.R_below (rl_ HO_17.out) hb)
           have n2_ := a_ (bb_ BK307.out hb)
           have n3_ := a_ (below_step bl_ hb)
           have n4_ := a_ (hbox)
           have n5_ := a_ ((bz_ (w := w) hg))
           have n6_ := a_ ((bz_ (w := w) hg))
           have n7_ := a_ ((nl_ BK307.out hg))
           have n8_ := a_ ((ng_ BK307.out hg))
           clear HO_4
           clear HO_17
           clear BK307
           clear HB
           have HO_4 := n0_
           have HO_17 := n1_
           have BK307 := n2_
           have HB := n3_
           have BK310 := n4_
           have GW310 := n5_
           have GE310 := n6_
           have NB307_310 := n7_
           have NB310_307 := n8_
           clear n0_ n1_ n2_ n3_ n4_ n5_ n6_ n7_ n8_
           clear hb hbox hg
           refine hK.out _ _ ⟨(blk_cell BK307.out 0).trans rfl, (blk_cell BK307.out 1).trans rfl⟩ (fun hHeld => ?_)
           clear hK K
           refine norm_ (a' := ?_) ?_ ?_
           rotate_left
           ·show Act.put _ (some 12) _ = _
            simp only [Act.put, List.setIfInBounds_toArray, List.set_cons_zero, List.set_cons_succ, i64_w, i32_w]
            rfl
           refine one_ (i := 1) (N := some 35) #[true, true, false, true, false] rfl rfl (by kernel_rfl) (by decide) (fun K hK => ?_)
           refine goes_ Tryz.func27 (by kernel_rfl) rfl #[] (by rfl) rfl rfl tm_ ?_
           with_reducible refine (refill_unknown.calls  t308 t309 _ A10.out).mono ?_
           rintro e w74 ⟨rfl, hb⟩
           refine ⟨_, rfl, ?_⟩
           have n0_ := a_ (Kd.R_below (rl_ HO_4.out) hb)
           have n1_ := a_ (Kd.R_below (rl_ HO_17.out) hb)
           have n2_ := a_ (bb_ BK307.out hb)
           have n3_ := a_ (bb_ BK310.out hb)
           have n4_ := a_ (below_step bl_ hb)
           clear HO_4
           clear HO_17
           clear BK307
           clear BK310
           clear HB
           have HO_4 := n0_
           have HO_17 := n1_
           have BK307 := n2_
           have BK310 := n3_
           have HB := n4_
           clear n0_ n1_ n2_ n3_ n4_
           (try clear hb)
           (try clear hb2)
           (try clear hk)
           (try clear hi)
           refine hK.out _ _ ⟨(blk_cell BK307.out 0).trans rfl, (blk_cell BK307.out 1).trans rfl⟩ (fun hHeld => ?_)
           clear hK K
           refine norm_ (a' := ?_) ?_ ?_
           rotate_left
           ·show Act.put _ (some 35) _ = _
            simp only [Act.put, List.setIfInBounds_toArray, List.set_cons_zero, List.set_cons_succ, i64_w, i32_w]
            rfl
           refine pure_ (i := 2) (N := some 36) (v := ?_) (a' := ?_) #[true, true, true, true, false] rfl rfl (by kernel_rfl) (fun _ _ _ h => h) (Or.inl ⟨by rfl, ?_⟩) ?_ ?_
           rotate_left
           ·intro w'
            go_simp
            with_reducible rfl
           rotate_left
           ·simp only [Act.put, List.setIfInBounds_toArray, List.set_cons_zero, List.set_cons_succ, i64_w, i32_w]
            rfl
           exact norm_ (by simp only [putAll, Act.put, List.setIfInBounds_toArray, List.set_cons_zero, List.set_cons_succ]) (hCont (gb310) _ ⟨hHeld, (rl_ HO_17.out), (rl_ (Kd.R_mono HO_4.out (fun _ hk => hk.2))), (by (with_reducible repeat (first | refine blk_drewN ?_ _ | refine blk_drew ?_ | refine blk_alloc ?_ _)); exact BK307.out), (by (with_reducible repeat (first | refine blk_drewN ?_ _ | refine blk_drew ?_ | refine blk_alloc ?_ _)); exact BK310.out), GW310.out, GE310.out, NB307_310.out, NB310_307.out, bl_⟩)
         rintro gb310 w75 ⟨hS_, h0_, h1_, h2_, h3_, h4_, h5_, h6_, h7_, h8_⟩
         have n0_ : Aside0 (Kd.R Kd.string 9 w75 w.heap.size (fun _ => True) (.slice (some ad300) t295.length co4) t295) := ⟨h0_⟩
         have n1_ : Aside0 (Kd.R k37 37 w75 w.heap.size (fun k_ => k_ ≠ gb310) u4 x4_1) := ⟨h1_⟩
         have n2_ : Aside0 (w75.heap[gb307]? = some (.cells #[.int .i64 t304, .int .i64 t305] 35 (0, 0))) := ⟨h2_⟩
         have n3_ : Aside0 (w75.heap[gb310]? = some (.cells #[.int .i64 0, .int .i64 0, .int .i64 0, .int .i64 0] 37 (0, 0))) := ⟨h3_⟩
         have n4_ : Aside0 (w.heap.size ≤ gb310) := ⟨h4_⟩
         have n5_ : Aside0 (w.heap.size ≤ gb310) := ⟨h5_⟩
         have n6_ : Aside0 (gb307 ≠ gb310) := ⟨h6_⟩
         have n7_ : Aside0 (gb310 ≠ gb307) := ⟨h7_⟩
         have n8_ : Aside0 (Below w.heap.size w w75) := ⟨h8_⟩
         clear HO_4
         clear HO_17
         clear BK307
         clear HB
         clear h0_ h1_ h2_ h3_ h4_ h5_ h6_ h7_ h8_
         have HO_17 := n0_
         have HO_4 := n1_
         have BK307 := n2_
         have BK310 := n3_
         have GW310 := n4_
         have GE310 := n5_
         have NB307_310 := n6_
         have NB310_307 := n7_
         have HB := n8_
         clear n0_ n1_ n2_ n3_ n4_ n5_ n6_ n7_ n8_
         have hHeld : w75.cell? ⟨gb307, 0, none⟩ = some (.int .i64 t304) ∧ w75.cell? ⟨gb307, 1, none⟩ = some (.int .i64 t305) := hS_
         refine norm_ (a' := ?_) ?_ ?_
         rotate_left
         ·simp only [putAll, Act.put, List.setIfInBounds_toArray, List.set_cons_zero, List.set_cons_succ]
          rfl
         refine one_ (i := 4) (N := none) #[true, true, true, true, true] rfl rfl (by kernel_rfl) (by decide) (fun K hK => ?_)
         have hs76 : w75.cell? ⟨gb310, 0, none⟩ = some (.int .i64 0) := (blk_cell BK310.out 0).trans rfl
         have hfs76 := blk_frozen BK310.out 0
         have hns76_0 := NB307_310.out
         have hms76_0 := NB310_307.out
         have hs77 : w75.cell? ⟨gb310, 1, none⟩ = some (.int .i64 0) := (blk_cell BK310.out 1).trans rfl
         have hfs77 := blk_frozen BK310.out 1
         have hns77_0 := NB307_310.out
         have hms77_0 := NB310_307.out
         have hs78 : w75.cell? ⟨gb310, 2, none⟩ = some (.int .i64 0) := (blk_cell BK310.out 2).trans rfl
         have hfs78 := blk_frozen BK310.out 2
         have hns78_0 := NB307_310.out
         have hms78_0 := NB310_307.out
         have hs79 : w75.cell? ⟨gb310, 3, none⟩ = some (.int .i64 0) := (blk_cell BK310.out 3).trans rfl
         have hfs79 := blk_frozen BK310.out 3
         have hns79_0 := NB307_310.out
         have hms79_0 := NB310_307.out
         refine skip_ (w1 := ?_) (by rfl) rfl ?_ ?_
         rotate_left
         ·go_simp
          rfl
         refine hK.out _ _ ⟨((cell_far (p := ⟨gb310, _, none⟩) NB307_310.out _).trans (((cell_far (p := ⟨gb310, _, none⟩) NB307_310.out _).trans (((cell_far (p := ⟨gb310, _, none⟩) NB307_310.out _).trans (((cell_far (p := ⟨gb310, _, none⟩) NB307_310.out _).trans (hHeld.1)))))))), ((cell_far (p := ⟨gb310, _, none⟩) NB307_310.out _).trans (((cell_far (p := ⟨gb310, _, none⟩) NB307_310.out _).trans (((cell_far (p := ⟨gb310, _, none⟩) NB307_310.out _).trans (((cell_far (p := ⟨gb310, _, none⟩) NB307_310.out _).trans (hHeld.2))))))))⟩ (fun hHeld => ?_)
         clear hK K
         refine done_ (by kernel_rfl) ?_
         have hnb80 := NB310_307.out
         have hnc80 := NB307_310.out
         have hcz81_0 : w75.cell? ⟨gb310, 0, none⟩ = some (.int .i64 0) := (blk_cell BK310.out 0).trans rfl
         have hcz81_1 : w75.cell? ⟨gb310, 1, none⟩ = some (.int .i64 0) := (blk_cell BK310.out 1).trans rfl
         have hcz81_2 : w75.cell? ⟨gb310, 2, none⟩ = some (.int .i64 0) := (blk_cell BK310.out 2).trans rfl
         have hcz81_3 : w75.cell? ⟨gb310, 3, none⟩ = some (.int .i64 0) := (blk_cell BK310.out 3).trans rfl
         have hfz81_0 := blk_frozen BK310.out 0
         have hfz81_1 := blk_frozen BK310.out 1
         have hfz81_2 := blk_frozen BK310.out 2
         have hfz81_3 := blk_frozen BK310.out 3
         try go_wp2_with (first | ((with_reducible refine gate_builtin (b := .append) (xs := #[.tmp 50, .tmp 52]) rfl ?_); at_builtin; refine Kd.R_append k37 (w0 := w) w.heap.size rfl (.tmp 50) (.tmp 52) 23 37 (.agg #[(.int .i64 0), (.int .i64 0), (.int .i64 0), (.int .i64 0)]) 32 rfl Tryz.underlying23 info37 rfl (by decide) (by omega) u4 x4_1 (⟨(⟨t304, t305⟩ : S35), (⟨t308, t309⟩ : S35)⟩ : S37) [.int .i64 t304, .int .i64 t305, .int .i64 t308, .int .i64 t309] (fun k_ => k_ ≠ gb310) (fun _ => False) rfl (by first | (go_simp; done) | (go_simp; rfl)) ?aP (fun _ hk => hk.elim) ?aF ?aO ?aB ?aS ?aL ?_; (case aP => exact k37_mkM _ _ _ (⟨(⟨t304, t305⟩ : S35), (⟨t308, t309⟩ : S35)⟩ : S37)); (case aB => exact bl_); (case aF => exact (fun k_ hk => Kd.freshB (g := gb310) (o := .cells #[.int .i64 t304, .int .i64 t305, .int .i64 t308, .int .i64 t309] 37 (0, 0)) (by (with_reducible repeat (first | refine blk_drewN ?_ _ | refine blk_drew ?_ | refine blk_alloc ?_ _)); refine blk_put (cs := #[.int .i64 t304, .int .i64 t305, .int .i64 t308, .int .i64 0]) ?_ 3 _ rfl; (with_reducible repeat (first | refine blk_drewN ?_ _ | refine blk_drew ?_ | refine blk_alloc ?_ _)); refine blk_put (cs := #[.int .i64 t304, .int .i64 t305, .int .i64 0, .int .i64 0]) ?_ 2 _ rfl; (with_reducible repeat (first | refine blk_drewN ?_ _ | refine blk_drew ?_ | refine blk_alloc ?_ _)); refine blk_put (cs := #[.int .i64 t304, .int .i64 0, .int .i64 0, .int .i64 0]) ?_ 1 _ rfl; (with_reducible repeat (first | refine blk_drewN ?_ _ | refine blk_drew ?_ | refine blk_alloc ?_ _)); refine blk_put (cs := #[.int .i64 0, .int .i64 0, .int .i64 0, .int .i64 0]) ?_ 0 _ rfl; (with_reducible repeat (first | refine blk_drewN ?_ _ | refine blk_drew ?_ | refine blk_alloc ?_ _)); exact BK310.out) k_ hk)); (case aO => exact (by (with_reducible repeat (first | apply Kd.R_alloc | apply Kd.R_drewN | apply Kd.R_drew)); exact Kd.R_mono (Kd.R_far (p := ⟨gb310, 3, none⟩) (Kd.R_far (p := ⟨gb310, 2, none⟩) (Kd.R_far (p := ⟨gb310, 1, none⟩) (Kd.R_far (p := ⟨gb310, 0, none⟩) (Kd.R_mono HO_4.out (fun k_ hk => (⟨hk, hk⟩ : _ ∧ k_ ≠ gb310))) (fun _ hk => hk.2) (.int .i64 t304)) (fun _ hk => hk.2) (.int .i64 t305)) (fun _ hk => hk.2) (.int .i64 t308)) (fun _ hk => hk.2) (.int .i64 t309)) (fun _ hk => hk.1))); (case aS => exact (below_size bl_)); (case aL => have := LMc66.out; omega); intro v318 w82 ho hb hg hat; rw [← Ny317.out] at ho; have n0_ := a_ (Kd.R_over' (by (with_reducible repeat (first | apply Kd.R_alloc | apply Kd.R_drewN | apply Kd.R_drew)); exact (Kd.R_mono (Kd.R_far (p := ⟨gb310, 3, none⟩) (Kd.R_far (p := ⟨gb310, 2, none⟩) (Kd.R_far (p := ⟨gb310, 1, none⟩) (Kd.R_far (p := ⟨gb310, 0, none⟩) (Kd.R_types HO_17.out BK310.out (by decide)) (fun _ hk => hk.2) (.int .i64 t304)) (fun _ hk => hk.2) (.int .i64 t305)) (fun _ hk => hk.2) (.int .i64 t308)) (fun _ hk => hk.2) (.int .i64 t309)) (fun _ h_ => h_.1))) (Kd.R_typed (by (with_reducible repeat (first | apply Kd.R_alloc | apply Kd.R_drewN | apply Kd.R_drew)); exact (Kd.R_mono (Kd.R_far (p := ⟨gb310, 3, none⟩) (Kd.R_far (p := ⟨gb310, 2, none⟩) (Kd.R_far (p := ⟨gb310, 1, none⟩) (Kd.R_far (p := ⟨gb310, 0, none⟩) (Kd.R_mono HO_4.out (fun k_ hk => (⟨hk, hk⟩ : _ ∧ k_ ≠ gb310))) (fun _ hk => hk.2) (.int .i64 t304)) (fun _ hk => hk.2) (.int .i64 t305)) (fun _ hk => hk.2) (.int .i64 t308)) (fun _ hk => hk.2) (.int .i64 t309)) (fun _ h_ => h_.1)))) (by decide) hg); have n1_ := a_ (blk_grown (g := gb307) (o := .cells #[.int .i64 t304, .int .i64 t305] 35 (0, 0)) (by (with_reducible repeat (first | refine blk_drewN ?_ _ | refine blk_drew ?_ | refine blk_alloc ?_ _)); refine blk_far ?_ NB307_310.out _; (with_reducible repeat (first | refine blk_drewN ?_ _ | refine blk_drew ?_ | refine blk_alloc ?_ _)); refine blk_far ?_ NB307_310.out _; (with_reducible repeat (first | refine blk_drewN ?_ _ | refine blk_drew ?_ | refine blk_alloc ?_ _)); refine blk_far ?_ NB307_310.out _; (with_reducible repeat (first | refine blk_drewN ?_ _ | refine blk_drew ?_ | refine blk_alloc ?_ _)); refine blk_far ?_ NB307_310.out _; (with_reducible repeat (first | refine blk_drewN ?_ _ | refine blk_drew ?_ | refine blk_alloc ?_ _)); exact BK307.out) hg (Kd.R_ne HO_4.out BK307.out (by decide))); have n2_ := a_ (blk_grown (g := gb310) (o := .cells #[.int .i64 t304, .int .i64 t305, .int .i64 t308, .int .i64 t309] 37 (0, 0)) (by (with_reducible repeat (first | refine blk_drewN ?_ _ | refine blk_drew ?_ | refine blk_alloc ?_ _)); refine blk_put (cs := #[.int .i64 t304, .int .i64 t305, .int .i64 t308, .int .i64 0]) ?_ 3 _ rfl; (with_reducible repeat (first | refine blk_drewN ?_ _ | refine blk_drew ?_ | refine blk_alloc ?_ _)); refine blk_put (cs := #[.int .i64 t304, .int .i64 t305, .int .i64 0, .int .i64 0]) ?_ 2 _ rfl; (with_reducible repeat (first | refine blk_drewN ?_ _ | refine blk_drew ?_ | refine blk_alloc ?_ _)); refine blk_put (cs := #[.int .i64 t304, .int .i64 0, .int .i64 0, .int .i64 0]) ?_ 1 _ rfl; (with_reducible repeat (first | refine blk_drewN ?_ _ | refine blk_drew ?_ | refine blk_alloc ?_ _)); refine blk_put (cs := #[.int .i64 0, .int .i64 0, .int .i64 0, .int .i64 0]) ?_ 0 _ rfl; (with_reducible repeat (first | refine blk_drewN ?_ _ | refine blk_drew ?_ | refine blk_alloc ?_ _)); exact BK310.out) hg (Kd.R_away HO_4.out (fun _ hk => hk))); have n3_ := a_ (hb); have n4_ := a_ (ho); clear HO_17; clear BK307; clear BK310; clear HB; clear HO_4; have HO_17 := n0_; have BK307 := n1_; have BK310 := n2_; have HB := n3_; have HO319 := n4_; clear n0_ n1_ n2_ n3_ n4_; clear ho hb hg hat))
         go_roundg k1
         case measure => have := HK1.out; omega
         case rel => exact ⟨(y317), (wrap64 (x19_1 + 1)), (by first | rfl | (simp; done) | (simp [*]; done)), H', ⟨by have := HK1.out; omega⟩, ⟨rl_ (Kd.R_mono HO319.out (fun _ hk => trivial))⟩, ⟨rl_ HO_17.out⟩, ⟨bl_⟩⟩
        ·rw [if_neg c66] at H
         exact absurd H (by simp)
       ·replace c65 := Bool.eq_false_iff.mpr c65
        subst c65
        have H1 : (some (([] : List (S37)), 3)) = some (r1, r2) := by rw [if_neg (show ¬ (false = true) by decide)] at H; exact H
        clear H
        have H := H1
        clear H1
        simp only [Option.some.injEq, Prod.mk.injEq] at H
        obtain ⟨rfl, rfl⟩ := H
        have p300 : 0 ≤ (x19_1 : Int) := of_decide_eq_true (by first | (with_reducible assumption) | assumption)
        have q300 : x19_1 < (t295.length : Int) := of_decide_eq_true (by first | (with_reducible assumption) | assumption)
        obtain ⟨ad300, e300, hx300_0⟩ := Kd.at_string (Kd.R_reads' HO_17.out).2.2 x19_1 p300 q300
        cases e300
        replace p300 := eq_true p300
        replace q300 := eq_true q300
        try go_wp2_with (first | ((with_reducible refine gate_callee (f := 33) rfl ?_); refine goesL_ (some 25) rfl rfl Tryz.func33 (by kernel_rfl) rfl #[.string (rdOf ByteArray.empty t295 x19_1), .string (⟨#[64]⟩ : ByteArray)] rfl tm_ ?_; (with_reducible refine (strings_Cut.calls (rdOf ByteArray.empty t295 x19_1) (⟨#[64]⟩ : ByteArray) t301 t302 false _ ?side1 A8.out).mono ?_); (case side1 => exact TabB.below HT.out bl_); rintro e w83 ⟨rfl, hb⟩; refine ⟨_, rfl, ?_⟩; have n0_ := a_ (Kd.R_below (rl_ HO_4.out) hb); have n1_ := a_ (Kd.R_below (rl_ HO_17.out) hb); have n2_ := a_ (below_step bl_ hb); clear HO_4; clear HO_17; clear HB; have HO_4 := n0_; have HO_17 := n1_; have HB := n2_; clear n0_ n1_ n2_; (try clear hb); (try clear hb2); (try clear hk); (try clear hi)) | ((with_reducible refine gate_callee (f := 34) rfl ?_); refine goesL_ (some 31) rfl rfl Tryz.func34 (by kernel_rfl) rfl #[.string t301] rfl tm_ ?_; (with_reducible refine (refill_spanOf.calls t301 t304 t305 false _ ?side1 A9.out).mono ?_); (case side1 => exact TabB.below HT.out bl_); rintro e w84 ⟨rfl, hb⟩; refine ⟨_, rfl, ?_⟩; have n0_ := a_ (Kd.R_below (rl_ HO_4.out) hb); have n1_ := a_ (Kd.R_below (rl_ HO_17.out) hb); have n2_ := a_ (below_step bl_ hb); clear HO_4; clear HO_17; clear HB; have HO_4 := n0_; have HO_17 := n1_; have HB := n2_; clear n0_ n1_ n2_; (try clear hb); (try clear hb2); (try clear hk); (try clear hi)) | ((with_reducible refine gate_dst (N := 10) rfl ?_); refine box_event ?hg (N := 10) ?hd (cs := #[.int .i64 0, .int .i64 0]) (t := 35) ?hr ?_; (case hd => rfl); (case hg => rfl); (case hr => first | (go_simp; done) | (go_simp; rfl)); intro gb307 hg w85 hbox hb; have n0_ := a_ (Kd.R_below (rl_ HO_4.out) hb); have n1_ := a_ (Kd.R_below (rl_ HO_17.out) hb); have n2_ := a_ (below_step bl_ hb); have n3_ := a_ (hbox); have n4_ := a_ ((bz_ (w := w) hg)); have n5_ := a_ ((bz_ (w := w) hg)); clear HO_4; clear HO_17; clear HB; have HO_4 := n0_; have HO_17 := n1_; have HB := n2_; have BK307 := n3_; have GW307 := n4_; have GE307 := n5_; clear n0_ n1_ n2_ n3_ n4_ n5_; clear hb hbox hg; have hcz86_0 : w85.cell? ⟨gb307, 0, none⟩ = some (.int .i64 0) := (blk_cell BK307.out 0).trans rfl; have hcz86_1 : w85.cell? ⟨gb307, 1, none⟩ = some (.int .i64 0) := (blk_cell BK307.out 1).trans rfl; have hfz86_0 := blk_frozen BK307.out 0; have hfz86_1 := blk_frozen BK307.out 1))
        have n0_ : Aside0 (Kd.R k37 37 ((w85.setCell ⟨gb307, 0, none⟩ (.int .i64 t304)).setCell ⟨gb307, 1, none⟩ (.int .i64 t305)) w.heap.size (fun _ => True) u4 x4_1) := ⟨by (with_reducible repeat (first | apply Kd.R_alloc | apply Kd.R_drewN | apply Kd.R_drew)); exact Kd.R_mono (Kd.R_far (p := ⟨gb307, 1, none⟩) (Kd.R_far (p := ⟨gb307, 0, none⟩) (Kd.R_types HO_4.out BK307.out (by decide)) (fun _ hk => hk.2) (.int .i64 t304)) (fun _ hk => hk.2) (.int .i64 t305)) (fun _ hk => trivial)⟩
        have n1_ : Aside0 (Kd.R Kd.string 9 ((w85.setCell ⟨gb307, 0, none⟩ (.int .i64 t304)).setCell ⟨gb307, 1, none⟩ (.int .i64 t305)) w.heap.size (fun _ => True) (.slice (some ad300) t295.length co4) t295) := ⟨by (with_reducible repeat (first | apply Kd.R_alloc | apply Kd.R_drewN | apply Kd.R_drew)); exact Kd.R_mono (Kd.R_far (p := ⟨gb307, 1, none⟩) (Kd.R_far (p := ⟨gb307, 0, none⟩) (Kd.R_types HO_17.out BK307.out (by decide)) (fun _ hk => hk.2) (.int .i64 t304)) (fun _ hk => hk.2) (.int .i64 t305)) (fun _ hk => trivial)⟩
        have n2_ : Aside0 (((w85.setCell ⟨gb307, 0, none⟩ (.int .i64 t304)).setCell ⟨gb307, 1, none⟩ (.int .i64 t305)).heap[gb307]? = some (.cells #[.int .i64 t304, .int .i64 t305] 35 (0, 0))) := ⟨by (with_reducible repeat (first | refine blk_drewN ?_ _ | refine blk_drew ?_ | refine blk_alloc ?_ _)); refine blk_put (cs := #[.int .i64 t304, .int .i64 0]) ?_ 1 _ rfl; (with_reducible repeat (first | refine blk_drewN ?_ _ | refine blk_drew ?_ | refine blk_alloc ?_ _)); refine blk_put (cs := #[.int .i64 0, .int .i64 0]) ?_ 0 _ rfl; (with_reducible repeat (first | refine blk_drewN ?_ _ | refine blk_drew ?_ | refine blk_alloc ?_ _)); exact BK307.out⟩
        have n3_ : Aside0 (Below w.heap.size w ((w85.setCell ⟨gb307, 0, none⟩ (.int .i64 t304)).setCell ⟨gb307, 1, none⟩ (.int .i64 t305))) := ⟨bl_⟩
        (try clear HO_4)
        (try clear HO_17)
        (try clear BK307)
        (try clear HB)
        generalize ((w85.setCell ⟨gb307, 0, none⟩ (.int .i64 t304)).setCell ⟨gb307, 1, none⟩ (.int .i64 t305)) = w87 at n0_ n1_ n2_ n3_ ⊢
        have HO_4 := n0_
        have HO_17 := n1_
        have BK307 := n2_
        have HB := n3_
        clear n0_ n1_ n2_ n3_
        have n0_ := a_ (Kd.R_drew HO_4.out)
        have n1_ := a_ (Kd.R_drew HO_17.out)
        have n2_ := a_ (blk_drew BK307.out)
        have n3_ := a_ (below_drew1 HB.out)
        clear HO_4
        clear HO_17
        clear BK307
        clear HB
        have HO_4 := n0_
        have HO_17 := n1_
        have BK307 := n2_
        have HB := n3_
        clear n0_ n1_ n2_ n3_
        refine start_ (n := 5) (S := fun w' => w'.cell? ⟨gb307, 0, none⟩ = some (.int .i64 t304) ∧ w'.cell? ⟨gb307, 1, none⟩ = some (.int .i64 t305)) (ds := []) #[false, false, false, false, false] (by kernel_rfl) rfl rfl ⟨(blk_cell BK307.out 0).trans rfl, (blk_cell BK307.out 1).trans rfl⟩ (fun hHeld => ?_)
        generalize w87.drew = w88 at HO_4 HO_17 BK307 HB hHeld ⊢
        refine take_ (i := 0) (N := some 34) (v := ?_) (a' := ?_) #[true, false, false, false, false] rfl rfl (by kernel_rfl) (fun _ _ _ h => h) (Or.inl ⟨by rfl, ?_⟩) hHeld ?_ ?_
        rotate_left
        ·rintro w' ⟨s0, s1⟩
         go_simp
         with_reducible rfl
        rotate_left
        ·simp only [Act.put, List.setIfInBounds_toArray, List.set_cons_zero, List.set_cons_succ, i64_w, i32_w]
         rfl
        refine join_ (σ := Nat) 1 #[true, true, true, true, false] (fun s_ => [(35, .agg #[.int .i64 t308, .int .i64 t309]), (12, .pointer (some ⟨s_, 0, none⟩)), (36, .agg #[.int .i64 t304, .int .i64 t305, .int .i64 t308, .int .i64 t309])]) (fun s_ w' => (w'.cell? ⟨gb307, 0, none⟩ = some (.int .i64 t304) ∧ w'.cell? ⟨gb307, 1, none⟩ = some (.int .i64 t305)) ∧ (Kd.R Kd.string 9 w' w.heap.size (fun _ => True) (.slice (some ad300) t295.length co4) t295) ∧ (Kd.R k37 37 w' w.heap.size (fun k_ => k_ ≠ s_) u4 x4_1) ∧ (w'.heap[gb307]? = some (.cells #[.int .i64 t304, .int .i64 t305] 35 (0, 0))) ∧ (w'.heap[s_]? = some (.cells #[.int .i64 0, .int .i64 0, .int .i64 0, .int .i64 0] 37 (0, 0))) ∧ (w.heap.size ≤ s_) ∧ (w.heap.size ≤ s_) ∧ (gb307 ≠ s_) ∧ (s_ ≠ gb307) ∧ (Below w.heap.size w w')) ?_ ?_
        rotate_left
        ·intro hCont
         refine two_ (i := 1) (j := 3) (Ni := some 35) (Nj := some 12) #[true, true, false, false, false] #[true, false, false, true, false] rfl rfl rfl rfl (by kernel_rfl) (by decide) (by decide) (fun K hK => ?_) (fun K hK => ?_)
         ·skip
          refine goes_ Tryz.func27 (by kernel_rfl) rfl #[] (by rfl) rfl rfl tm_ ?_
          with_reducible refine (refill_unknown.calls  t308 t309 _ A10.out).mono ?_
          rintro e w89 ⟨rfl, hb⟩
          refine ⟨_, rfl, ?_⟩
          have n0_ := a_ (Kd.R_below (rl_ HO_4.out) hb)
          have n1_ := a_ (Kd.R_below (rl_ HO_17.out) hb)
          have n2_ := a_ (bb_ BK307.out hb)
          have n3_ := a_ (below_step bl_ hb)
          clear HO_4
          clear HO_17
          clear BK307
          clear HB
          have HO_4 := n0_
          have HO_17 := n1_
          have BK307 := n2_
          have HB := n3_
          clear n0_ n1_ n2_ n3_
          (try clear hb)
          (try clear hb2)
          (try clear hk)
          (try clear hi)
          refine hK.out _ _ ⟨(blk_cell BK307.out 0).trans rfl, (blk_cell BK307.out 1).trans rfl⟩ (fun hHeld => ?_)
          clear hK K
          refine norm_ (a' := ?_) ?_ ?_
          rotate_left
          ·show Act.put _ (some 35) _ = _
           simp only [Act.put, List.setIfInBounds_toArray, List.set_cons_zero, List.set_cons_succ, i64_w, i32_w]
           rfl
          refine pure_ (i := 2) (N := some 36) (v := ?_) (a' := ?_) #[true, true, true, false, false] rfl rfl (by kernel_rfl) (fun _ _ _ h => h) (Or.inl ⟨by rfl, ?_⟩) ?_ ?_
          rotate_left
          ·intro w'
           go_simp
           with_reducible rfl
          rotate_left
          ·simp only [Act.put, List.setIfInBounds_toArray, List.set_cons_zero, List.set_cons_succ, i64_w, i32_w]
           rfl
          refine one_ (i := 3) (N := some 12) #[true, true, true, true, false] rfl rfl (by kernel_rfl) (by decide) (fun K hK => ?_)
          refine box_step ?hg (N := 12) ?hd (cs := #[.int .i64 0, .int .i64 0, .int .i64 0, .int .i64 0]) (t := 37) ?hr ?_; (case hd => rfl); (case hg => rfl); (case hr => first | (go_simp; done) | (go_simp; rfl))
          intro gb310 hg w90 hbox hb
          have n0_ := a_ (Kd.R_below (Kd.R_elderB (rl_ HO_4.out) gb310 (Nat.le_of_eq hg.symm)) hb)
          have n1_ := a_ (Kd.R_below (rl_ HO_17.out) hb)
          have n2_ := a_ (bb_ BK307.out hb)
          have n3_ := a_ (below_step bl_ hb)
          have n4_ := a_ (hbox)
          have n5_ := a_ ((bz_ (w := w) hg))
          have n6_ := a_ ((bz_ (w := w) hg))
          have n7_ := a_ ((nl_ BK307.out hg))
          have n8_ := a_ ((ng_ BK307.out hg))
          clear HO_4
          clear HO_17
          clear BK307
          clear HB
          have HO_4 := n0_
          have HO_17 := n1_
          have BK307 := n2_
          have HB := n3_
          have BK310 := n4_
          have GW310 := n5_
          have GE310 := n6_
          have NB307_310 := n7_
          have NB310_307 := n8_
          clear n0_ n1_ n2_ n3_ n4_ n5_ n6_ n7_ n8_
          clear hb hbox hg
          refine hK.out _ _ ⟨(blk_cell BK307.out 0).trans rfl, (blk_cell BK307.out 1).trans rfl⟩ (fun hHeld => ?_)
          clear hK K
          refine norm_ (a' := ?_) ?_ ?_
          rotate_left
          ·show Act.put _ (some 12) _ = _
           simp only [Act.put, List.setIfInBounds_toArray, List.set_cons_zero, List.set_cons_succ, i64_w, i32_w]
           rfl
          exact norm_ (by simp only [putAll, Act.put, List.setIfInBounds_toArray, List.set_cons_zero, List.set_cons_succ]) (hCont (gb310) _ ⟨hHeld, (rl_ HO_17.out), (rl_ (Kd.R_mono HO_4.out (fun _ hk => hk.2))), (by (with_reducible repeat (first | refine blk_drewN ?_ _ | refine blk_drew ?_ | refine blk_alloc ?_ _)); exact BK307.out), (by (with_reducible repeat (first | refine blk_drewN ?_ _ | refine blk_drew ?_ | refine blk_alloc ?_ _)); exact BK310.out), GW310.out, GE310.out, NB307_310.out, NB310_307.out, bl_⟩)
         ·skip
          refine box_step ?hg (N := 12) ?hd (cs := #[.int .i64 0, .int .i64 0, .int .i64 0, .int .i64 0]) (t := 37) ?hr ?_; (case hd => rfl); (case hg => rfl); (case hr => first | (go_simp; done) | (go_simp; rfl))
          intro gb310 hg w89 hbox hb
          have n0_ := a_ (Kd.R_below (Kd.R_elderB (rl_ HO_4.out) gb310 (Nat.le_of_eq hg.symm)) hb)
          have n1_ := a_ (Kd.R_below (rl_ HO_17.out) hb)
          have n2_ := a_ (bb_ BK307.out hb)
          have n3_ := a_ (below_step bl_ hb)
          have n4_ := a_ (hbox)
          have n5_ := a_ ((bz_ (w := w) hg))
          have n6_ := a_ ((bz_ (w := w) hg))
          have n7_ := a_ ((nl_ BK307.out hg))
          have n8_ := a_ ((ng_ BK307.out hg))
          clear HO_4
          clear HO_17
          clear BK307
          clear HB
          have HO_4 := n0_
          have HO_17 := n1_
          have BK307 := n2_
          have HB := n3_
          have BK310 := n4_
          have GW310 := n5_
          have GE310 := n6_
          have NB307_310 := n7_
          have NB310_307 := n8_
          clear n0_ n1_ n2_ n3_ n4_ n5_ n6_ n7_ n8_
          clear hb hbox hg
          refine hK.out _ _ ⟨(blk_cell BK307.out 0).trans rfl, (blk_cell BK307.out 1).trans rfl⟩ (fun hHeld => ?_)
          clear hK K
          refine norm_ (a' := ?_) ?_ ?_
          rotate_left
          ·show Act.put _ (some 12) _ = _
           simp only [Act.put, List.setIfInBounds_toArray, List.set_cons_zero, List.set_cons_succ, i64_w, i32_w]
           rfl
          refine one_ (i := 1) (N := some 35) #[true, true, false, true, false] rfl rfl (by kernel_rfl) (by decide) (fun K hK => ?_)
          refine goes_ Tryz.func27 (by kernel_rfl) rfl #[] (by rfl) rfl rfl tm_ ?_
          with_reducible refine (refill_unknown.calls  t308 t309 _ A10.out).mono ?_
          rintro e w90 ⟨rfl, hb⟩
          refine ⟨_, rfl, ?_⟩
          have n0_ := a_ (Kd.R_below (rl_ HO_4.out) hb)
          have n1_ := a_ (Kd.R_below (rl_ HO_17.out) hb)
          have n2_ := a_ (bb_ BK307.out hb)
          have n3_ := a_ (bb_ BK310.out hb)
          have n4_ := a_ (below_step bl_ hb)
          clear HO_4
          clear HO_17
          clear BK307
          clear BK310
          clear HB
          have HO_4 := n0_
          have HO_17 := n1_
          have BK307 := n2_
          have BK310 := n3_
          have HB := n4_
          clear n0_ n1_ n2_ n3_ n4_
          (try clear hb)
          (try clear hb2)
          (try clear hk)
          (try clear hi)
          refine hK.out _ _ ⟨(blk_cell BK307.out 0).trans rfl, (blk_cell BK307.out 1).trans rfl⟩ (fun hHeld => ?_)
          clear hK K
          refine norm_ (a' := ?_) ?_ ?_
          rotate_left
          ·show Act.put _ (some 35) _ = _
           simp only [Act.put, List.setIfInBounds_toArray, List.set_cons_zero, List.set_cons_succ, i64_w, i32_w]
           rfl
          refine pure_ (i := 2) (N := some 36) (v := ?_) (a' := ?_) #[true, true, true, true, false] rfl rfl (by kernel_rfl) (fun _ _ _ h => h) (Or.inl ⟨by rfl, ?_⟩) ?_ ?_
          rotate_left
          ·intro w'
           go_simp
           with_reducible rfl
          rotate_left
          ·simp only [Act.put, List.setIfInBounds_toArray, List.set_cons_zero, List.set_cons_succ, i64_w, i32_w]
           rfl
          exact norm_ (by simp only [putAll, Act.put, List.setIfInBounds_toArray, List.set_cons_zero, List.set_cons_succ]) (hCont (gb310) _ ⟨hHeld, (rl_ HO_17.out), (rl_ (Kd.R_mono HO_4.out (fun _ hk => hk.2))), (by (with_reducible repeat (first | refine blk_drewN ?_ _ | refine blk_drew ?_ | refine blk_alloc ?_ _)); exact BK307.out), (by (with_reducible repeat (first | refine blk_drewN ?_ _ | refine blk_drew ?_ | refine blk_alloc ?_ _)); exact BK310.out), GW310.out, GE310.out, NB307_310.out, NB310_307.out, bl_⟩)
        rintro gb310 w91 ⟨hS_, h0_, h1_, h2_, h3_, h4_, h5_, h6_, h7_, h8_⟩
        have n0_ : Aside0 (Kd.R Kd.string 9 w91 w.heap.size (fun _ => True) (.slice (some ad300) t295.length co4) t295) := ⟨h0_⟩
        have n1_ : Aside0 (Kd.R k37 37 w91 w.heap.size (fun k_ => k_ ≠ gb310) u4 x4_1) := ⟨h1_⟩
        have n2_ : Aside0 (w91.heap[gb307]? = some (.cells #[.int .i64 t304, .int .i64 t305] 35 (0, 0))) := ⟨h2_⟩
        have n3_ : Aside0 (w91.heap[gb310]? = some (.cells #[.int .i64 0, .int .i64 0, .int .i64 0, .int .i64 0] 37 (0, 0))) := ⟨h3_⟩
        have n4_ : Aside0 (w.heap.size ≤ gb310) := ⟨h4_⟩
        have n5_ : Aside0 (w.heap.size ≤ gb310) := ⟨h5_⟩
        have n6_ : Aside0 (gb307 ≠ gb310) := ⟨h6_⟩
        have n7_ : Aside0 (gb310 ≠ gb307) := ⟨h7_⟩
        have n8_ : Aside0 (Below w.heap.size w w91) := ⟨h8_⟩
        clear HO_4
        clear HO_17
        clear BK307
        clear HB
        clear h0_ h1_ h2_ h3_ h4_ h5_ h6_ h7_ h8_
        have HO_17 := n0_
        have HO_4 := n1_
        have BK307 := n2_
        have BK310 := n3_
        have GW310 := n4_
        have GE310 := n5_
        have NB307_310 := n6_
        have NB310_307 := n7_
        have HB := n8_
        clear n0_ n1_ n2_ n3_ n4_ n5_ n6_ n7_ n8_
        have hHeld : w91.cell? ⟨gb307, 0, none⟩ = some (.int .i64 t304) ∧ w91.cell? ⟨gb307, 1, none⟩ = some (.int .i64 t305) := hS_
        refine norm_ (a' := ?_) ?_ ?_
        rotate_left
        ·simp only [putAll, Act.put, List.setIfInBounds_toArray, List.set_cons_zero, List.set_cons_succ]
         rfl
        refine one_ (i := 4) (N := none) #[true, true, true, true, true] rfl rfl (by kernel_rfl) (by decide) (fun K hK => ?_)
        have hs92 : w91.cell? ⟨gb310, 0, none⟩ = some (.int .i64 0) := (blk_cell BK310.out 0).trans rfl
        have hfs92 := blk_frozen BK310.out 0
        have hns92_0 := NB307_310.out
        have hms92_0 := NB310_307.out
        have hs93 : w91.cell? ⟨gb310, 1, none⟩ = some (.int .i64 0) := (blk_cell BK310.out 1).trans rfl
        have hfs93 := blk_frozen BK310.out 1
        have hns93_0 := NB307_310.out
        have hms93_0 := NB310_307.out
        have hs94 : w91.cell? ⟨gb310, 2, none⟩ = some (.int .i64 0) := (blk_cell BK310.out 2).trans rfl
        have hfs94 := blk_frozen BK310.out 2
        have hns94_0 := NB307_310.out
        have hms94_0 := NB310_307.out
        have hs95 : w91.cell? ⟨gb310, 3, none⟩ = some (.int .i64 0) := (blk_cell BK310.out 3).trans rfl
        have hfs95 := blk_frozen BK310.out 3
        have hns95_0 := NB307_310.out
        have hms95_0 := NB310_307.out
        refine skip_ (w1 := ?_) (by rfl) rfl ?_ ?_
        rotate_left
        ·go_simp
         rfl
        refine hK.out _ _ ⟨((cell_far (p := ⟨gb310, _, none⟩) NB307_310.out _).trans (((cell_far (p := ⟨gb310, _, none⟩) NB307_310.out _).trans (((cell_far (p := ⟨gb310, _, none⟩) NB307_310.out _).trans (((cell_far (p := ⟨gb310, _, none⟩) NB307_310.out _).trans (hHeld.1)))))))), ((cell_far (p := ⟨gb310, _, none⟩) NB307_310.out _).trans (((cell_far (p := ⟨gb310, _, none⟩) NB307_310.out _).trans (((cell_far (p := ⟨gb310, _, none⟩) NB307_310.out _).trans (((cell_far (p := ⟨gb310, _, none⟩) NB307_310.out _).trans (hHeld.2))))))))⟩ (fun hHeld => ?_)
        clear hK K
        refine done_ (by kernel_rfl) ?_
        try go_wp2
        go_ret2
        exact ⟨_, by first | rfl | (simp [errW_none, errW_some] <;> rfl) | (simp [*, errW_none, errW_some] <;> rfl), by first | exact Kd.R_nil _ _ _ _ _ | exact Kd.N_nil _ _ _ _ _ | exact Kd.V_nil _ _ _ _ _ | exact Kd.Q_nil _ _ _ _ _ | exact Kd.S_nil _ _ _ _ _, bl_⟩
     ·rw [if_neg c7] at H
      exact absurd H (by simp)
    ·rw [if_neg c6] at H
     exact absurd H (by simp)
   ·rw [if_neg c5] at H
    have c5b0 : decide (x19_1 < (t295.length : Int)) = false := decide_eq_false c5
    clear c5
    replace H := Option.bind_eq_some_iff.mp H
    obtain ⟨⟨t298, t299⟩, A960, H⟩ := H
    replace H : (if t299 = 0 then (if t298.toList = a0.toList then (some (x4_1, 0)) else (some (([] : List (S37)), 3))) else (some (([] : List (S37)), 3))) = some (r1, r2) := H
    have A96 := a_ A960
    clear A960
    by_cases c97 : t299 = 0
    ·rw [if_pos c97] at H
     have c97b0 : (t299 == 0) = true := beq_iff_eq.mpr c97
     have c97b1 : (t299 != 0) = false := bne_eq_false_iff_eq.mpr c97
     clear c97
     by_cases c98 : t298.toList = a0.toList
     ·rw [if_pos c98] at H
      have c98b0 : (t298.toList == a0.toList) = true := beq_iff_eq.mpr c98
      have c98b1 : (t298.toList != a0.toList) = false := bne_eq_false_iff_eq.mpr c98
      clear c98
      simp only [Option.some.injEq, Prod.mk.injEq] at H
      obtain ⟨rfl, rfl⟩ := H
      obtain ⟨Ao99, co99, eo99⟩ := Kd.R_slice HO_4.out
      subst eo99
      go_wp2_with (first | ((with_reducible refine gate_callee (f := 6) rfl ?_); refine goesL_ (some 57) rfl rfl Tryz.func6 (by kernel_rfl) rfl #[.slice Ao99 x4_1.length co99] rfl tm_ ?_; (with_reducible refine (refill_Print.calls k1 _ _ x4_1 t298 t299 _ ?side1 ?side2 ?side3 A96.out).mono ?_); (case side1 => exact cl_ ((Kd.R_reads' HO_4.out).2.2)); (case side2 => exact (Kd.R_reads' HO_4.out).2.1); (case side3 => exact TabB.below HT.out bl_); rintro e w100 ⟨rfl, hb⟩; refine ⟨_, rfl, ?_⟩; have n0_ := a_ (Kd.R_below (rl_ HO_4.out) hb); have n1_ := a_ (Kd.R_below (rl_ HO_17.out) hb); have n2_ := a_ (below_step bl_ hb); clear HO_4; clear HO_17; clear HB; have HO_4 := n0_; have HO_17 := n1_; have HB := n2_; clear n0_ n1_ n2_; (try clear hb); (try clear hb2); (try clear hk); (try clear hi)))
      go_ret2
      exact ⟨_, by first | rfl | (simp [errW_none, errW_some] <;> rfl) | (simp [*, errW_none, errW_some] <;> rfl), by (with_reducible repeat (first | apply Kd.R_alloc | apply Kd.R_drewN | apply Kd.R_drew)); exact HO_4.out, bl_⟩
     ·rw [if_neg c98] at H
      have c98b0 : (t298.toList == a0.toList) = false := beq_eq_false_iff_ne.mpr c98
      have c98b1 : (t298.toList != a0.toList) = true := bne_iff_ne.mpr c98
      simp only [Option.some.injEq, Prod.mk.injEq] at H
      obtain ⟨rfl, rfl⟩ := H
      obtain ⟨Ao101, co101, eo101⟩ := Kd.R_slice HO_4.out
      subst eo101
      go_wp2_with (first | ((with_reducible refine gate_callee (f := 6) rfl ?_); refine goesL_ (some 57) rfl rfl Tryz.func6 (by kernel_rfl) rfl #[.slice Ao101 x4_1.length co101] rfl tm_ ?_; (with_reducible refine (refill_Print.calls k1 _ _ x4_1 t298 t299 _ ?side1 ?side2 ?side3 A96.out).mono ?_); (case side1 => exact cl_ ((Kd.R_reads' HO_4.out).2.2)); (case side2 => exact (Kd.R_reads' HO_4.out).2.1); (case side3 => exact TabB.below HT.out bl_); rintro e w102 ⟨rfl, hb⟩; refine ⟨_, rfl, ?_⟩; have n0_ := a_ (Kd.R_below (rl_ HO_4.out) hb); have n1_ := a_ (Kd.R_below (rl_ HO_17.out) hb); have n2_ := a_ (below_step bl_ hb); clear HO_4; clear HO_17; clear HB; have HO_4 := n0_; have HO_17 := n1_; have HB := n2_; clear n0_ n1_ n2_; (try clear hb); (try clear hb2); (try clear hk); (try clear hi)))
      go_ret2
      exact ⟨_, by first | rfl | (simp [errW_none, errW_some] <;> rfl) | (simp [*, errW_none, errW_some] <;> rfl), by first | exact Kd.R_nil _ _ _ _ _ | exact Kd.N_nil _ _ _ _ _ | exact Kd.V_nil _ _ _ _ _ | exact Kd.Q_nil _ _ _ _ _ | exact Kd.S_nil _ _ _ _ _, bl_⟩
    ·rw [if_neg c97] at H
     have c97b0 : (t299 == 0) = false := beq_eq_false_iff_ne.mpr c97
     have c97b1 : (t299 != 0) = true := bne_iff_ne.mpr c97
     simp only [Option.some.injEq, Prod.mk.injEq] at H
     obtain ⟨rfl, rfl⟩ := H
     obtain ⟨Ao103, co103, eo103⟩ := Kd.R_slice HO_4.out
     subst eo103
     go_wp2_with (first | ((with_reducible refine gate_callee (f := 6) rfl ?_); refine goesL_ (some 57) rfl rfl Tryz.func6 (by kernel_rfl) rfl #[.slice Ao103 x4_1.length co103] rfl tm_ ?_; (with_reducible refine (refill_Print.calls k1 _ _ x4_1 t298 t299 _ ?side1 ?side2 ?side3 A96.out).mono ?_); (case side1 => exact cl_ ((Kd.R_reads' HO_4.out).2.2)); (case side2 => exact (Kd.R_reads' HO_4.out).2.1); (case side3 => exact TabB.below HT.out bl_); rintro e w104 ⟨rfl, hb⟩; refine ⟨_, rfl, ?_⟩; have n0_ := a_ (Kd.R_below (rl_ HO_4.out) hb); have n1_ := a_ (Kd.R_below (rl_ HO_17.out) hb); have n2_ := a_ (below_step bl_ hb); clear HO_4; clear HO_17; clear HB; have HO_4 := n0_; have HO_17 := n1_; have HB := n2_; clear n0_ n1_ n2_; (try clear hb); (try clear hb2); (try clear hk); (try clear hi)))
     go_ret2
     exact ⟨_, by first | rfl | (simp [errW_none, errW_some] <;> rfl) | (simp [*, errW_none, errW_some] <;> rfl), by first | exact Kd.R_nil _ _ _ _ _ | exact Kd.N_nil _ _ _ _ _ | exact Kd.V_nil _ _ _ _ _ | exact Kd.Q_nil _ _ _ _ _ | exact Kd.S_nil _ _ _ _ _, bl_⟩

end Go.Proofs.YtgiihjcpgjpkcaaGreatDoor.Q
