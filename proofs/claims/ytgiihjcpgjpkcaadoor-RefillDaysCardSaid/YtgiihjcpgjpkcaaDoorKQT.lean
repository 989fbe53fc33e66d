/- Contracts of functions that RefillDays reaches: each Go function as a plain Lean function and the proof that its call answers just so. -/
import Derived.Test.YtgiihjcpgjpkcaaDoorKQ0
import Derived.Test.YtgiihjcpgjpkcaaDoorKQC
namespace Go.Proofs.YtgiihjcpgjpkcaaDoor.Q
open Go.RowKit Go.Proofs.YtgiihjcpgjpkcaaDoorW.PrintWords Go.Proofs.YtgiihjcpgjpkcaaDoorW.PrintLast Go.Proofs.YtgiihjcpgjpkcaaDoorW.PrintMore
attribute [local go_sem] max2_int min2_int max_two min_two max_three min_three max_four min_four   -- for this text's walks alone
set_option linter.unusedVariables false
set_option linter.unusedSimpArgs false
mutual
def waterhourref04_Without.j0 : Nat → List (S51) → Int → Bool → Option ((List (S51)) × Int)
 | 0, _, _, _ => none
 | k + 1, x0, x1, x20 => if x20 = true then (some (([] : List (S51)), 1)) else (waterhourref04_Without.l0 k x0 x1 ([] : List (S51)) 0)
def waterhourref04_Without.l0 : Nat → List (S51) → Int → List (S51) → Int → Option ((List (S51)) × Int)
 | 0, _, _, _, _ => none
 | k + 1, x0, x1, x6, x7 => if x7 < (x0.length : Int) then (if 0 ≤ x7 then (if x7 = x1 then (waterhourref04_Without.l0 k x0 x1 x6 (wrap64 (x7 + 1))) else (if x7 = (wrap64 (x1 + 1)) then (if 0 ≤ x1 then (if x1 < (x0.length : Int) then (if (wrap64 (((rd_T51 x0 x7).f0.f1) + ((rd_T51 x0 x1).f0.f1))) > 524288 then (some (([] : List (S51)), 2)) else (if x6.length < 4398046511104 then (waterhourref04_Without.l0 k x0 x1 (x6 ++ [(⟨(⟨wrap64 (((rd_T51 x0 x7).f0.f0) + ((rd_T51 x0 x1).f0.f0)), wrap64 (((rd_T51 x0 x7).f0.f1) + ((rd_T51 x0 x1).f0.f1))⟩ : S49), (⟨(rd_T51 x0 x7).f1.f0, (rd_T51 x0 x7).f1.f1⟩ : S49)⟩ : S51)]) (wrap64 (x7 + 1))) else (none))) else (none)) else (none)) else (if ((rd_T51 x0 x7).f0.f1) > 524288 then (some (([] : List (S51)), 2)) else (if x6.length < 4398046511104 then (waterhourref04_Without.l0 k x0 x1 (x6 ++ [(⟨(⟨(rd_T51 x0 x7).f0.f0, (rd_T51 x0 x7).f0.f1⟩ : S49), (⟨(rd_T51 x0 x7).f1.f0, (rd_T51 x0 x7).f1.f1⟩ : S49)⟩ : S51)]) (wrap64 (x7 + 1))) else (none))))) else (none)) else (some (x6, 0))
end
def waterhourref04_Without.f (k : Nat) (l0 : List (S51)) (a1 : Int) : Option ((List (S51)) × Int) := (waterhourref04_Valid.f k l0).bind fun t896 => (if t896 = true then ((waterhourref04_Event.f l0 a1 0).bind fun t897 => (if t897 = true then (waterhourref04_Without.j0 k l0 a1 ((l0.length : Int) == 1)) else (waterhourref04_Without.j0 k l0 a1 true))) else (some (([] : List (S51)), 40)))
theorem waterhourref04_Without.mono_l : ∀ k, (∀ y0 y1 y2, LeO (waterhourref04_Without.j0 k y0 y1 y2) (waterhourref04_Without.j0 (k + 1) y0 y1 y2)) ∧ (∀ y0 y1 y2 y3, LeO (waterhourref04_Without.l0 k y0 y1 y2 y3) (waterhourref04_Without.l0 (k + 1) y0 y1 y2 y3))
 | 0 => ⟨fun _ _ _ r h => by simp [waterhourref04_Without.j0] at h, fun _ _ _ _ r h => by simp [waterhourref04_Without.l0] at h⟩
 | k + 1 => by
  obtain ⟨ih0, ih1⟩ := waterhourref04_Without.mono_l k
  refine ⟨?_, ?_⟩
  ·intro y0 y1 y2
   unfold waterhourref04_Without.j0
   repeat' first
   | (with_reducible exact ih0 _ _ _)
   | (with_reducible exact ih1 _ _ _ _)
   | (with_reducible exact waterhourref04_Valid.mono _ _)
   | (with_reducible exact LeO.refl _)
   | (with_reducible exact LeO.none _)
   | (with_reducible refine LeO.ite ?_ ?_)
   | (with_reducible refine LeO.bind ?_ (fun _ => ?_))
   | exact ih0 _ _ _
   | exact ih1 _ _ _ _
   | exact waterhourref04_Valid.mono _ _
   | exact LeO.none _
   | refine LeO.ite ?_ ?_
   | refine LeO.bind ?_ (fun _ => ?_)
  ·intro y0 y1 y2 y3
   unfold waterhourref04_Without.l0
   repeat' first
   | (with_reducible exact ih0 _ _ _)
   | (with_reducible exact ih1 _ _ _ _)
   | (with_reducible exact waterhourref04_Valid.mono _ _)
   | (with_reducible exact LeO.refl _)
   | (with_reducible exact LeO.none _)
   | (with_reducible refine LeO.ite ?_ ?_)
   | (with_reducible refine LeO.bind ?_ (fun _ => ?_))
   | exact ih0 _ _ _
   | exact ih1 _ _ _ _
   | exact waterhourref04_Valid.mono _ _
   | exact LeO.none _
   | refine LeO.ite ?_ ?_
   | refine LeO.bind ?_ (fun _ => ?_)
theorem waterhourref04_Without.mono : ∀ a0 a1 k, LeO (waterhourref04_Without.f k a0 a1) (waterhourref04_Without.f (k + 1) a0 a1) := by
 intro a0 a1 k
 obtain ⟨ih0, ih1⟩ := waterhourref04_Without.mono_l k
 unfold waterhourref04_Without.f
 repeat' first
   | (with_reducible exact ih0 _ _ _)
   | (with_reducible exact ih1 _ _ _ _)
   | (with_reducible exact waterhourref04_Valid.mono _ _)
   | (with_reducible exact LeO.refl _)
   | (with_reducible exact LeO.none _)
   | (with_reducible refine LeO.ite ?_ ?_)
   | (with_reducible refine LeO.bind ?_ (fun _ => ?_))
   | exact ih0 _ _ _
   | exact ih1 _ _ _ _
   | exact waterhourref04_Valid.mono _ _
   | exact LeO.none _
   | refine LeO.ite ?_ ?_
   | refine LeO.bind ?_ (fun _ => ?_)
def waterhourref04_Without.T12 : Bool × List (List Nat × List Nat) := (true, [([], []), ([0], [0]), ([1], [1]), ([], []), ([], []), ([3, 4], [3, 4]), ([5], [5]), ([6], [6]), ([7], [7]), ([2, 8], [2, 8]), ([], []), ([10], [10]), ([11], [11]), ([], []), ([], []), ([13, 14], [13, 14]), ([15], [15]), ([16], [16]), ([17], [17]), ([12, 18], [12, 18]), ([9, 19], [9, 19]), ([0, 1, 2, 3, 4, 5, 6, 7, 8, 9, 10, 11, 12, 13, 14, 15, 16, 17, 18, 19, 20], []), ([21, 20, 0, 1, 2, 3, 4, 5, 6, 7, 8, 9, 10, 11, 12, 13, 14, 15, 16, 17, 18, 19, 20], [20, 21])])
def waterhourref04_Without.B12 : List Nat := [0, 1, 3, 0, 0, 24, 56, 120, 248, 511, 0, 1024, 3072, 0, 0, 24576, 57344, 122880, 253952, 523264, 1048575, 2097151, 4194303]
theorem waterhourref04_Without.tab12 : rtab .any (opsOf Tryd.f59 12) = waterhourref04_Without.T12 := by kernel_rfl
theorem waterhourref04_Without.bits12 : waitsOk waterhourref04_Without.T12.2 waterhourref04_Without.B12 = true := by kernel_rfl
set_option maxHeartbeats 8000000 in
set_option maxRecDepth 100000 in
theorem waterhourref04_Without.calls (k : Nat) (A0 : Option Addr) (c0 : Nat) (l0 : List (S51)) (a1 : Int) (r1 : List (S51)) (r2 : Int) (w : World) (hr0 : Kd.C k51 w A0 l0.length l0) (hc0 : l0.length ≤ c0) (h : waterhourref04_Without.f k l0 a1 = some (r1, r2)) :
  Calls Tryd.prog 59 #[.slice A0 l0.length c0, .int .i64 a1] w fun e w' => ∃ v0_ : Value, e = .returned (.tuple #[v0_, .int .i64 r2]) ∧ Kd.R k51 51 w' w.heap.size (fun _ => True) v0_ r1 ∧ Below w.heap.size w w' := by
 have hu51 := Tryd.underlying51
 have hu49 := Tryd.underlying49
 have HR0 := a_ hr0
 have HC0 := a_ hc0
 clear hr0 hc0
 have HB := a_ (Below.refl w.heap.size w)
 have H : ((waterhourref04_Valid.f k l0).bind fun t896 => (if t896 = true then ((waterhourref04_Event.f l0 a1 0).bind fun t897 => (if t897 = true then (waterhourref04_Without.j0 k l0 a1 ((l0.length : Int) == 1)) else (waterhourref04_Without.j0 k l0 a1 true))) else (some (([] : List (S51)), 40)))) = some (r1, r2) := h
 clear h
 replace H := Option.bind_eq_some_iff.mp H
 obtain ⟨t896, A30, H⟩ := H
 replace H : (if t896 = true then ((waterhourref04_Event.f l0 a1 0).bind fun t897 => (if t897 = true then (waterhourref04_Without.j0 k l0 a1 ((l0.length : Int) == 1)) else (waterhourref04_Without.j0 k l0 a1 true))) else (some (([] : List (S51)), 40))) = some (r1, r2) := H
 have A3 := a_ A30
 clear A30
 by_cases c4 : t896 = true
 ·subst c4
  have H1 : ((waterhourref04_Event.f l0 a1 0).bind fun t897 => (if t897 = true then (waterhourref04_Without.j0 k l0 a1 ((l0.length : Int) == 1)) else (waterhourref04_Without.j0 k l0 a1 true))) = some (r1, r2) := by rw [if_pos rfl] at H; exact H
  clear H
  have H := H1
  clear H1
  have HC5 := a_ H
  clear H
  go_enter Tryd.func59, Tryd.ntmps59
  go_upto_region 3 with (first | ((with_reducible refine gate_callee (f := 31) rfl ?_); refine goesL_ (some 10) rfl rfl Tryd.func31 (by kernel_rfl) rfl #[.slice A0 l0.length c0] rfl tm_ ?_; (with_reducible refine (waterhourref04_Valid.calls k _ _ l0 true _ ?side1 ?side2 A3.out).mono ?_); (case side1 => exact cl_ HR0.out); (case side2 => exact HC0.out); rintro e w6 ⟨rfl, hb⟩; refine ⟨_, rfl, ?_⟩; have n0_ := a_ (below_step bl_ hb); clear HB; have HB := n0_; clear n0_; (try clear hb); (try clear hb2); (try clear hk); (try clear hi)))
  (try simp only [Act.put, List.setIfInBounds_toArray, List.set_cons_zero, List.set_cons_succ])
  go_cut [20] (fun v20 wc => ∃ (kq : Nat) (x20_4 : Bool), v20 = .bool x20_4 ∧ Aside0 (waterhourref04_Without.j0 kq l0 a1 x20_4 = some (r1, r2)) ∧ Aside0 (kq ≤ k) ∧ Aside0 (Below w.heap.size w wc))
  case first =>
   have H := HC5.out
   clear HC5
   replace H := Option.bind_eq_some_iff.mp H
   obtain ⟨t897, A70, H⟩ := H
   replace H : (if t897 = true then (waterhourref04_Without.j0 k l0 a1 ((l0.length : Int) == 1)) else (waterhourref04_Without.j0 k l0 a1 true)) = some (r1, r2) := H
   have A7 := a_ A70
   clear A70
   by_cases c8 : t897 = true
   ·subst c8
    have H1 : (waterhourref04_Without.j0 k l0 a1 ((l0.length : Int) == 1)) = some (r1, r2) := by rw [if_pos rfl] at H; exact H
    clear H
    have H := H1
    clear H1
    have H' := a_ H
    clear H
    go_wp2_with (first | ((with_reducible refine gate_callee (f := 36) rfl ?_); refine goesL_ (some 14) rfl rfl Tryd.func36 (by kernel_rfl) rfl #[.slice A0 l0.length c0, .int .i64 a1, .int .i64 0] rfl tm_ ?_; (with_reducible refine (waterhourref04_Event.calls _ _ l0 a1 0 true _ ?side1 ?side2 A7.out).mono ?_); (case side1 => exact cl_ (Kd.C_below HR0.out HB.out)); (case side2 => exact HC0.out); rintro e w' ⟨rfl, ⟨nd, rfl⟩⟩; refine ⟨_, rfl, ?_⟩))
    go_meet
    case rel => exact ⟨_, (((l0.length : Int) == 1)), (by first | rfl | (simp; done) | (simp [*]; done)), H', ⟨by first | omega | exact Nat.le_refl _⟩, ⟨bl_⟩⟩
   ·replace c8 := Bool.eq_false_iff.mpr c8
    subst c8
    have H1 : (waterhourref04_Without.j0 k l0 a1 true) = some (r1, r2) := by rw [if_neg (show ¬ (false = true) by decide)] at H; exact H
    clear H
    have H := H1
    clear H1
    have H' := a_ H
    clear H
    go_wp2_with (first | ((with_reducible refine gate_callee (f := 36) rfl ?_); refine goesL_ (some 14) rfl rfl Tryd.func36 (by kernel_rfl) rfl #[.slice A0 l0.length c0, .int .i64 a1, .int .i64 0] rfl tm_ ?_; (with_reducible refine (waterhourref04_Event.calls _ _ l0 a1 0 false _ ?side1 ?side2 A7.out).mono ?_); (case side1 => exact cl_ (Kd.C_below HR0.out HB.out)); (case side2 => exact HC0.out); rintro e w' ⟨rfl, ⟨nd, rfl⟩⟩; refine ⟨_, rfl, ?_⟩))
    go_meet
    case rel => exact ⟨_, (true), (by first | rfl | (simp; done) | (simp [*]; done)), H', ⟨by first | omega | exact Nat.le_refl _⟩, ⟨bl_⟩⟩
  case rest =>
   clear HC5
   try clear p2
   try clear c3
   try clear c4
   try clear c5
   try clear c8
   obtain ⟨kq, x20_4, rfl, HA, HJ4, HB⟩ := hcut
   cases kq with
   | zero => exact absurd HA.out (by simp [waterhourref04_Without.j0])
   | succ kj4 =>
    have H := HA.out
    clear HA
    simp only [waterhourref04_Without.j0] at H
    by_cases c9 : x20_4 = true
    ·subst c9
     have H1 : (some (([] : List (S51)), 1)) = some (r1, r2) := by rw [if_pos rfl] at H; exact H
     clear H
     have H := H1
     clear H1
     simp only [Option.some.injEq, Prod.mk.injEq] at H
     obtain ⟨rfl, rfl⟩ := H
     go_wp2
     go_ret2
     exact ⟨_, by first | rfl | (simp [errW_none, errW_some] <;> rfl) | (simp [*, errW_none, errW_some] <;> rfl), by first | exact Kd.R_nil _ _ _ _ _ | exact Kd.N_nil _ _ _ _ _ | exact Kd.V_nil _ _ _ _ _ | exact Kd.Q_nil _ _ _ _ _ | exact Kd.S_nil _ _ _ _ _, bl_⟩
    ·replace c9 := Bool.eq_false_iff.mpr c9
     subst c9
     have H1 : (waterhourref04_Without.l0 kj4 l0 a1 ([] : List (S51)) 0) = some (r1, r2) := by rw [if_neg (show ¬ (false = true) by decide)] at H; exact H
     clear H
     have H := H1
     clear H1
     have H' := a_ H
     clear H
     go_wp2
     go_loopg [6, 7] kj4 (fun kq v6 v7 w' => ∃ (x6_2 : List (S51)) (x7_2 : Int), v7 = .int .i64 x7_2 ∧ Aside0 (waterhourref04_Without.l0 kq l0 a1 x6_2 x7_2 = some (r1, r2)) ∧ Aside0 (kq ≤ kj4) ∧ Aside0 (Kd.R k51 51 w' w.heap.size (fun _ => True) v6 x6_2) ∧ Aside0 (Below w.heap.size w w'))
     case atStart => exact ⟨(([] : List (S51))), (0), (by first | rfl | (simp; done) | (simp [*]; done)), H', ⟨Nat.le_refl _⟩, ⟨by first | exact Kd.R_nil _ _ _ _ _ | exact Kd.N_nil _ _ _ _ _ | exact Kd.V_nil _ _ _ _ _ | exact Kd.Q_nil _ _ _ _ _ | exact Kd.S_nil _ _ _ _ _⟩, ⟨bl_⟩⟩
     case round =>
      clear H'
      try clear p2
      try clear c3
      try clear c4
      try clear c5
      try clear c8
      try clear c9
      try clear p2
      obtain ⟨x6_2, x7_2, rfl, HA, HK2, HO_6, HB⟩ := hrel
      cases gk with
      | zero => exact absurd HA.out (by simp [waterhourref04_Without.l0])
      | succ k2 =>
       have H := HA.out
       clear HA
       simp only [waterhourref04_Without.l0] at H
       by_cases c10 : x7_2 < (l0.length : Int)
       ·rw [if_pos c10] at H
        have c10b0 : decide (x7_2 < (l0.length : Int)) = true := decide_eq_true c10
        clear c10
        by_cases c11 : 0 ≤ x7_2
        ·rw [if_pos c11] at H
         have c11b0 : decide (0 ≤ x7_2) = true := decide_eq_true c11
         clear c11
         by_cases c12 : x7_2 = a1
         ·rw [if_pos c12] at H
          have c12b0 : (x7_2 == a1) = true := beq_iff_eq.mpr c12
          have c12b1 : (x7_2 != a1) = false := bne_eq_false_iff_eq.mpr c12
          clear c12
          have H' := a_ H
          clear H
          have p898 : 0 ≤ (x7_2 : Int) := of_decide_eq_true (by first | (with_reducible assumption) | assumption)
          have q898 : x7_2 < (l0.length : Int) := of_decide_eq_true (by first | (with_reducible assumption) | assumption)
          obtain ⟨ad898, e898, hx898_0, hx898_1, hx898_2, hx898_3⟩ := at_T51 HR0.out x7_2 p898 q898
          cases e898
          replace hx898_0 := (HB.out.cell (World.block_lt_of_cell? w _ hx898_0)).trans hx898_0
          replace hx898_1 := (HB.out.cell (World.block_lt_of_cell? w _ hx898_1)).trans hx898_1
          replace hx898_2 := (HB.out.cell (World.block_lt_of_cell? w _ hx898_2)).trans hx898_2
          replace hx898_3 := (HB.out.cell (World.block_lt_of_cell? w _ hx898_3)).trans hx898_3
          replace p898 := eq_true p898
          replace q898 := eq_true q898
          go_wp2_with (first | ((with_reducible refine gate_dst (N := 8) rfl ?_); (try (refine gate_guard (by rfl) ?_; dsimp only)); refine box_event ?hg (N := 8) ?hd (cs := #[.int .i64 0, .int .i64 0, .int .i64 0, .int .i64 0]) (t := 51) ?hr ?_; (case hd => rfl); (case hg => rfl); (case hr => first | (go_simp; done) | (go_simp; rfl)); intro gb899 hg w13 hbox hb; have n0_ := a_ (Kd.R_below (Kd.R_elderB (rl_ HO_6.out) gb899 (Nat.le_of_eq hg.symm)) hb); have n1_ := a_ (below_step bl_ hb); have n2_ := a_ (hbox); have n3_ := a_ ((bz_ (w := w) hg)); have n4_ := a_ ((bz_ (w := w) hg)); clear HO_6; clear HB; have HO_6 := n0_; have HB := n1_; have BK899 := n2_; have GW899 := n3_; have GE899 := n4_; clear n0_ n1_ n2_ n3_ n4_; clear hb hbox hg; have hcz14_0 : w13.cell? ⟨gb899, 0, none⟩ = some (.int .i64 0) := (blk_cell BK899.out 0).trans rfl; have hcz14_1 : w13.cell? ⟨gb899, 1, none⟩ = some (.int .i64 0) := (blk_cell BK899.out 1).trans rfl; have hcz14_2 : w13.cell? ⟨gb899, 2, none⟩ = some (.int .i64 0) := (blk_cell BK899.out 2).trans rfl; have hcz14_3 : w13.cell? ⟨gb899, 3, none⟩ = some (.int .i64 0) := (blk_cell BK899.out 3).trans rfl; have hfz14_0 := blk_frozen BK899.out 0; have hfz14_1 := blk_frozen BK899.out 1; have hfz14_2 := blk_frozen BK899.out 2; have hfz14_3 := blk_frozen BK899.out 3))
          go_roundg k2
          case measure => have := HJ4.out; have := HK2.out; omega
          case rel => exact ⟨(x6_2), (wrap64 (x7_2 + 1)), (by first | rfl | (simp; done) | (simp [*]; done)), H', ⟨by have := HJ4.out; have := HK2.out; omega⟩, ⟨by (with_reducible repeat (first | apply Kd.R_alloc | apply Kd.R_drewN | apply Kd.R_drew)); exact Kd.R_mono (Kd.R_far (p := ⟨gb899, 3, none⟩) (Kd.R_far (p := ⟨gb899, 2, none⟩) (Kd.R_far (p := ⟨gb899, 1, none⟩) (Kd.R_far (p := ⟨gb899, 0, none⟩) (Kd.R_mono HO_6.out (fun k_ hk => (⟨hk, hk.2⟩ : _ ∧ k_ ≠ gb899))) (fun _ hk => hk.2) (.int .i64 ((rd_T51 l0 x7_2).f0.f0))) (fun _ hk => hk.2) (.int .i64 ((rd_T51 l0 x7_2).f0.f1))) (fun _ hk => hk.2) (.int .i64 ((rd_T51 l0 x7_2).f1.f0))) (fun _ hk => hk.2) (.int .i64 ((rd_T51 l0 x7_2).f1.f1))) (fun _ hk => trivial)⟩, ⟨bl_⟩⟩
         ·rw [if_neg c12] at H
          have c12b0 : (x7_2 == a1) = false := beq_eq_false_iff_ne.mpr c12
          have c12b1 : (x7_2 != a1) = true := bne_iff_ne.mpr c12
          by_cases c15 : x7_2 = (wrap64 (a1 + 1))
          ·rw [if_pos c15] at H
           have c15b0 : (x7_2 == (wrap64 (a1 + 1))) = true := beq_iff_eq.mpr c15
           have c15b1 : (x7_2 != (wrap64 (a1 + 1))) = false := bne_eq_false_iff_eq.mpr c15
           clear c15
           by_cases c16 : 0 ≤ a1
           ·rw [if_pos c16] at H
            have c16b0 : decide (0 ≤ a1) = true := decide_eq_true c16
            clear c16
            by_cases c17 : a1 < (l0.length : Int)
            ·rw [if_pos c17] at H
             have c17b0 : decide (a1 < (l0.length : Int)) = true := decide_eq_true c17
             clear c17
             by_cases c18 : (wrap64 (((rd_T51 l0 x7_2).f0.f1) + ((rd_T51 l0 a1).f0.f1))) > 524288
             ·rw [if_pos c18] at H
              have c18b0 : decide (524288 < (wrap64 (((rd_T51 l0 x7_2).f0.f1) + ((rd_T51 l0 a1).f0.f1)))) = true := decide_eq_true c18
              clear c18
              simp only [Option.some.injEq, Prod.mk.injEq] at H
              obtain ⟨rfl, rfl⟩ := H
              have p898 : 0 ≤ (x7_2 : Int) := of_decide_eq_true (by first | (with_reducible assumption) | assumption)
              have q898 : x7_2 < (l0.length : Int) := of_decide_eq_true (by first | (with_reducible assumption) | assumption)
              obtain ⟨ad898, e898, hx898_0, hx898_1, hx898_2, hx898_3⟩ := at_T51 HR0.out x7_2 p898 q898
              cases e898
              replace hx898_0 := (HB.out.cell (World.block_lt_of_cell? w _ hx898_0)).trans hx898_0
              replace hx898_1 := (HB.out.cell (World.block_lt_of_cell? w _ hx898_1)).trans hx898_1
              replace hx898_2 := (HB.out.cell (World.block_lt_of_cell? w _ hx898_2)).trans hx898_2
              replace hx898_3 := (HB.out.cell (World.block_lt_of_cell? w _ hx898_3)).trans hx898_3
              replace p898 := eq_true p898
              replace q898 := eq_true q898
              try go_wp2_with (first | ((with_reducible refine gate_dst (N := 8) rfl ?_); (try (refine gate_guard (by rfl) ?_; dsimp only)); refine box_event ?hg (N := 8) ?hd (cs := #[.int .i64 0, .int .i64 0, .int .i64 0, .int .i64 0]) (t := 51) ?hr ?_; (case hd => rfl); (case hg => rfl); (case hr => first | (go_simp; done) | (go_simp; rfl)); intro gb899 hg w19 hbox hb; have n0_ := a_ (Kd.R_below (Kd.R_elderB (rl_ HO_6.out) gb899 (Nat.le_of_eq hg.symm)) hb); have n1_ := a_ (below_step bl_ hb); have n2_ := a_ (hbox); have n3_ := a_ ((bz_ (w := w) hg)); have n4_ := a_ ((bz_ (w := w) hg)); clear HO_6; clear HB; have HO_6 := n0_; have HB := n1_; have BK899 := n2_; have GW899 := n3_; have GE899 := n4_; clear n0_ n1_ n2_ n3_ n4_; clear hb hbox hg; have hcz20_0 : w19.cell? ⟨gb899, 0, none⟩ = some (.int .i64 0) := (blk_cell BK899.out 0).trans rfl; have hcz20_1 : w19.cell? ⟨gb899, 1, none⟩ = some (.int .i64 0) := (blk_cell BK899.out 1).trans rfl; have hcz20_2 : w19.cell? ⟨gb899, 2, none⟩ = some (.int .i64 0) := (blk_cell BK899.out 2).trans rfl; have hcz20_3 : w19.cell? ⟨gb899, 3, none⟩ = some (.int .i64 0) := (blk_cell BK899.out 3).trans rfl; have hfz20_0 := blk_frozen BK899.out 0; have hfz20_1 := blk_frozen BK899.out 1; have hfz20_2 := blk_frozen BK899.out 2; have hfz20_3 := blk_frozen BK899.out 3))
              have n0_ : Aside0 (Kd.R k51 51 ((((w19.setCell ⟨gb899, 0, none⟩ (.int .i64 ((rd_T51 l0 x7_2).f0.f0))).setCell ⟨gb899, 1, none⟩ (.int .i64 ((rd_T51 l0 x7_2).f0.f1))).setCell ⟨gb899, 2, none⟩ (.int .i64 ((rd_T51 l0 x7_2).f1.f0))).setCell ⟨gb899, 3, none⟩ (.int .i64 ((rd_T51 l0 x7_2).f1.f1))) w.heap.size (fun k_ => k_ ≠ gb899) u6 x6_2) := ⟨by (with_reducible repeat (first | apply Kd.R_alloc | apply Kd.R_drewN | apply Kd.R_drew)); exact Kd.R_mono (Kd.R_far (p := ⟨gb899, 3, none⟩) (Kd.R_far (p := ⟨gb899, 2, none⟩) (Kd.R_far (p := ⟨gb899, 1, none⟩) (Kd.R_far (p := ⟨gb899, 0, none⟩) (Kd.R_mono HO_6.out (fun k_ hk => (⟨hk, hk.2⟩ : _ ∧ k_ ≠ gb899))) (fun _ hk => hk.2) (.int .i64 ((rd_T51 l0 x7_2).f0.f0))) (fun _ hk => hk.2) (.int .i64 ((rd_T51 l0 x7_2).f0.f1))) (fun _ hk => hk.2) (.int .i64 ((rd_T51 l0 x7_2).f1.f0))) (fun _ hk => hk.2) (.int .i64 ((rd_T51 l0 x7_2).f1.f1))) (fun _ hk => hk.1.2)⟩
              have n1_ : Aside0 (((((w19.setCell ⟨gb899, 0, none⟩ (.int .i64 ((rd_T51 l0 x7_2).f0.f0))).setCell ⟨gb899, 1, none⟩ (.int .i64 ((rd_T51 l0 x7_2).f0.f1))).setCell ⟨gb899, 2, none⟩ (.int .i64 ((rd_T51 l0 x7_2).f1.f0))).setCell ⟨gb899, 3, none⟩ (.int .i64 ((rd_T51 l0 x7_2).f1.f1))).heap[gb899]? = some (.cells #[.int .i64 ((rd_T51 l0 x7_2).f0.f0), .int .i64 ((rd_T51 l0 x7_2).f0.f1), .int .i64 ((rd_T51 l0 x7_2).f1.f0), .int .i64 ((rd_T51 l0 x7_2).f1.f1)] 51 (0, 0))) := ⟨by (with_reducible repeat (first | refine blk_drewN ?_ _ | refine blk_drew ?_ | refine blk_alloc ?_ _)); refine blk_put (cs := #[.int .i64 ((rd_T51 l0 x7_2).f0.f0), .int .i64 ((rd_T51 l0 x7_2).f0.f1), .int .i64 ((rd_T51 l0 x7_2).f1.f0), .int .i64 0]) ?_ 3 _ rfl; (with_reducible repeat (first | refine blk_drewN ?_ _ | refine blk_drew ?_ | refine blk_alloc ?_ _)); refine blk_put (cs := #[.int .i64 ((rd_T51 l0 x7_2).f0.f0), .int .i64 ((rd_T51 l0 x7_2).f0.f1), .int .i64 0, .int .i64 0]) ?_ 2 _ rfl; (with_reducible repeat (first | refine blk_drewN ?_ _ | refine blk_drew ?_ | refine blk_alloc ?_ _)); refine blk_put (cs := #[.int .i64 ((rd_T51 l0 x7_2).f0.f0), .int .i64 0, .int .i64 0, .int .i64 0]) ?_ 1 _ rfl; (with_reducible repeat (first | refine blk_drewN ?_ _ | refine blk_drew ?_ | refine blk_alloc ?_ _)); refine blk_put (cs := #[.int .i64 0, .int .i64 0, .int .i64 0, .int .i64 0]) ?_ 0 _ rfl; (with_reducible repeat (first | refine blk_drewN ?_ _ | refine blk_drew ?_ | refine blk_alloc ?_ _)); exact BK899.out⟩
              have n2_ : Aside0 (Below w.heap.size w ((((w19.setCell ⟨gb899, 0, none⟩ (.int .i64 ((rd_T51 l0 x7_2).f0.f0))).setCell ⟨gb899, 1, none⟩ (.int .i64 ((rd_T51 l0 x7_2).f0.f1))).setCell ⟨gb899, 2, none⟩ (.int .i64 ((rd_T51 l0 x7_2).f1.f0))).setCell ⟨gb899, 3, none⟩ (.int .i64 ((rd_T51 l0 x7_2).f1.f1)))) := ⟨bl_⟩
              (try clear HO_6)
              (try clear BK899)
              (try clear HB)
              generalize ((((w19.setCell ⟨gb899, 0, none⟩ (.int .i64 ((rd_T51 l0 x7_2).f0.f0))).setCell ⟨gb899, 1, none⟩ (.int .i64 ((rd_T51 l0 x7_2).f0.f1))).setCell ⟨gb899, 2, none⟩ (.int .i64 ((rd_T51 l0 x7_2).f1.f0))).setCell ⟨gb899, 3, none⟩ (.int .i64 ((rd_T51 l0 x7_2).f1.f1))) = w21 at n0_ n1_ n2_ ⊢
              have HO_6 := n0_
              have BK899 := n1_
              have HB := n2_
              clear n0_ n1_ n2_
              have n0_ := a_ (Kd.R_drew HO_6.out)
              have n1_ := a_ (blk_drew BK899.out)
              have n2_ := a_ (below_drew1 HB.out)
              clear HO_6
              clear BK899
              clear HB
              have HO_6 := n0_
              have BK899 := n1_
              have HB := n2_
              clear n0_ n1_ n2_
              have p900 : 0 ≤ (a1 : Int) := of_decide_eq_true (by first | (with_reducible assumption) | assumption)
              have q900 : a1 < (l0.length : Int) := of_decide_eq_true (by first | (with_reducible assumption) | assumption)
              obtain ⟨ad900, e900, hx900_0, hx900_1, hx900_2, hx900_3⟩ := at_T51 HR0.out a1 p900 q900
              have hw900_3 := hx900_3
              have hw900_2 := hx900_2
              have hw900_1 := hx900_1
              have hw900_0 := hx900_0
              obtain rfl : ad898 = ad900 := (by injection e900)
              replace hx900_0 := (HB.out.cell (World.block_lt_of_cell? w _ hx900_0)).trans hx900_0
              replace hx900_1 := (HB.out.cell (World.block_lt_of_cell? w _ hx900_1)).trans hx900_1
              replace hx900_2 := (HB.out.cell (World.block_lt_of_cell? w _ hx900_2)).trans hx900_2
              replace hx900_3 := (HB.out.cell (World.block_lt_of_cell? w _ hx900_3)).trans hx900_3
              replace p900 := eq_true p900
              replace q900 := eq_true q900
              have p901 : 0 ≤ (a1 : Int) := of_decide_eq_true (by first | (with_reducible assumption) | assumption)
              have q901 : a1 < (l0.length : Int) := of_decide_eq_true (by first | (with_reducible assumption) | assumption)
              obtain ⟨ad901, e901, hx901_0, hx901_1, hx901_2, hx901_3⟩ := at_T51 HR0.out a1 p901 q901
              have hw901_3 := hx901_3
              have hw901_2 := hx901_2
              have hw901_1 := hx901_1
              have hw901_0 := hx901_0
              obtain rfl : ad898 = ad901 := (by injection e901)
              replace hx901_0 := (HB.out.cell (World.block_lt_of_cell? w _ hx901_0)).trans hx901_0
              replace hx901_1 := (HB.out.cell (World.block_lt_of_cell? w _ hx901_1)).trans hx901_1
              replace hx901_2 := (HB.out.cell (World.block_lt_of_cell? w _ hx901_2)).trans hx901_2
              replace hx901_3 := (HB.out.cell (World.block_lt_of_cell? w _ hx901_3)).trans hx901_3
              replace p901 := eq_true p901
              replace q901 := eq_true q901
              refine start_ (n := 23) (S := fun w' => w'.cell? ⟨gb899, 0, none⟩ = some (.int .i64 ((rd_T51 l0 x7_2).f0.f0)) ∧ w'.cell? ⟨gb899, 1, none⟩ = some (.int .i64 ((rd_T51 l0 x7_2).f0.f1)) ∧ w'.cell? ⟨gb899, 2, none⟩ = some (.int .i64 ((rd_T51 l0 x7_2).f1.f0)) ∧ w'.cell? ⟨gb899, 3, none⟩ = some (.int .i64 ((rd_T51 l0 x7_2).f1.f1)) ∧ w'.cell? (ad898.add ((a1).toNat * 4)) = some (.int .i64 ((rd_T51 l0 a1).f0.f0)) ∧ w'.cell? ⟨(ad898.add ((a1).toNat * 4)).block, (ad898.add ((a1).toNat * 4)).off + 1, none⟩ = some (.int .i64 ((rd_T51 l0 a1).f0.f1)) ∧ w'.cell? ⟨(ad898.add ((a1).toNat * 4)).block, (ad898.add ((a1).toNat * 4)).off + 2, none⟩ = some (.int .i64 ((rd_T51 l0 a1).f1.f0)) ∧ w'.cell? ⟨(ad898.add ((a1).toNat * 4)).block, (ad898.add ((a1).toNat * 4)).off + 3, none⟩ = some (.int .i64 ((rd_T51 l0 a1).f1.f1)) ∧ w'.cell? (ad898.add ((a1).toNat * 4)) = some (.int .i64 ((rd_T51 l0 a1).f0.f0)) ∧ w'.cell? ⟨(ad898.add ((a1).toNat * 4)).block, (ad898.add ((a1).toNat * 4)).off + 1, none⟩ = some (.int .i64 ((rd_T51 l0 a1).f0.f1)) ∧ w'.cell? ⟨(ad898.add ((a1).toNat * 4)).block, (ad898.add ((a1).toNat * 4)).off + 2, none⟩ = some (.int .i64 ((rd_T51 l0 a1).f1.f0)) ∧ w'.cell? ⟨(ad898.add ((a1).toNat * 4)).block, (ad898.add ((a1).toNat * 4)).off + 3, none⟩ = some (.int .i64 ((rd_T51 l0 a1).f1.f1))) (ds := [22]) #[false, false, false, false, false, false, false, false, false, false, false, false, false, false, false, false, false, false, false, false, false, false, false] (by kernel_rfl) rfl rfl ⟨(blk_cell BK899.out 0).trans rfl, (blk_cell BK899.out 1).trans rfl, (blk_cell BK899.out 2).trans rfl, (blk_cell BK899.out 3).trans rfl, ((HB.out.cell (World.block_lt_of_cell? w _ hw900_0)).trans hw900_0), ((HB.out.cell (World.block_lt_of_cell? w _ hw900_1)).trans hw900_1), ((HB.out.cell (World.block_lt_of_cell? w _ hw900_2)).trans hw900_2), ((HB.out.cell (World.block_lt_of_cell? w _ hw900_3)).trans hw900_3), ((HB.out.cell (World.block_lt_of_cell? w _ hw901_0)).trans hw901_0), ((HB.out.cell (World.block_lt_of_cell? w _ hw901_1)).trans hw901_1), ((HB.out.cell (World.block_lt_of_cell? w _ hw901_2)).trans hw901_2), ((HB.out.cell (World.block_lt_of_cell? w _ hw901_3)).trans hw901_3)⟩ (fun hHeld => ?_); refine with_tabW waterhourref04_Without.tab12 waterhourref04_Without.bits12 (fun HT_ HW_ => ?_)
              generalize w21.drew = w22 at HO_6 BK899 HB hx900_0 hx900_1 hx900_2 hx900_3 hx901_0 hx901_1 hx901_2 hx901_3 hHeld ⊢
              refine pz_ 0 38 HT_ ?_
              refine pz_ 1 39 HT_ ?_
              refine pz_ 3 41 HT_ ?_
              refine pz_ 4 42 HT_ ?_
              refine pz_ 5 43 HT_ ?_
              refine pz_ 6 44 HT_ ?_
              refine pz_ 7 45 HT_ ?_
              refine pz_ 10 48 HT_ ?_
              refine pz_ 11 49 HT_ ?_
              refine pz_ 13 51 HT_ ?_
              refine pz_ 14 52 HT_ ?_
              refine pz_ 15 53 HT_ ?_
              refine pz_ 16 54 HT_ ?_
              refine pz_ 17 55 HT_ ?_
              refine take_ (i := 2) (N := some 40) (v := ?_) (a' := ?_) #[true, true, true, true, true, true, true, true, false, false, true, true, false, true, true, true, true, true, false, false, false, false, false] rfl rfl (take_ofW HT_.out HW_.out (by kernel_rfl)) (fun _ _ _ h => h) (Or.inl ⟨by rfl, ?_⟩) hHeld ?_ ?_
              rotate_left
              ·rintro w' ⟨s0, s1, s2, s3, s4, s5, s6, s7, s8, s9, s10, s11⟩
               go_simp
               with_reducible rfl
              rotate_left
              ·simp only [Act.put, List.setIfInBounds_toArray, List.set_cons_zero, List.set_cons_succ, i64_w, i32_w]
               rfl
              refine take_ (i := 8) (N := some 46) (v := ?_) (a' := ?_) #[true, true, true, true, true, true, true, true, true, false, true, true, false, true, true, true, true, true, false, false, false, false, false] rfl rfl (take_ofW HT_.out HW_.out (by kernel_rfl)) (fun _ _ _ h => h) (Or.inl ⟨by rfl, ?_⟩) hHeld ?_ ?_
              rotate_left
              ·rintro w' ⟨s0, s1, s2, s3, s4, s5, s6, s7, s8, s9, s10, s11⟩
               go_simp
               with_reducible rfl
              rotate_left
              ·simp only [Act.put, List.setIfInBounds_toArray, List.set_cons_zero, List.set_cons_succ, i64_w, i32_w]
               rfl
              refine pz_ 9 47 HT_ ?_
              refine take_ (i := 12) (N := some 50) (v := ?_) (a' := ?_) #[true, true, true, true, true, true, true, true, true, true, true, true, true, true, true, true, true, true, false, false, false, false, false] rfl rfl (take_ofW HT_.out HW_.out (by kernel_rfl)) (fun _ _ _ h => h) (Or.inl ⟨by rfl, ?_⟩) hHeld ?_ ?_
              rotate_left
              ·rintro w' ⟨s0, s1, s2, s3, s4, s5, s6, s7, s8, s9, s10, s11⟩
               go_simp
               with_reducible rfl
              rotate_left
              ·simp only [Act.put, List.setIfInBounds_toArray, List.set_cons_zero, List.set_cons_succ, i64_w, i32_w]
               rfl
              refine take_ (i := 18) (N := some 56) (v := ?_) (a' := ?_) #[true, true, true, true, true, true, true, true, true, true, true, true, true, true, true, true, true, true, true, false, false, false, false] rfl rfl (take_ofW HT_.out HW_.out (by kernel_rfl)) (fun _ _ _ h => h) (Or.inl ⟨by rfl, ?_⟩) hHeld ?_ ?_
              rotate_left
              ·rintro w' ⟨s0, s1, s2, s3, s4, s5, s6, s7, s8, s9, s10, s11⟩
               go_simp
               with_reducible rfl
              rotate_left
              ·simp only [Act.put, List.setIfInBounds_toArray, List.set_cons_zero, List.set_cons_succ, i64_w, i32_w]
               rfl
              refine pz_ 19 57 HT_ ?_
              refine pz_ 20 58 HT_ ?_
              refine pz_ 21 59 HT_ ?_
              refine last_ (i := 22) (N := none) #[true, true, true, true, true, true, true, true, true, true, true, true, true, true, true, true, true, true, true, true, true, true, true] rfl rfl (one_of HT_.out (by kernel_rfl)) (by decide) (fun K hK => ?_)
              have hs23 : w22.cell? ⟨gb899, 0, none⟩ = some (.int .i64 ((rd_T51 l0 x7_2).f0.f0)) := (blk_cell BK899.out 0).trans rfl
              have hfs23 := blk_frozen BK899.out 0
              have hs24 : w22.cell? ⟨gb899, 1, none⟩ = some (.int .i64 ((rd_T51 l0 x7_2).f0.f1)) := (blk_cell BK899.out 1).trans rfl
              have hfs24 := blk_frozen BK899.out 1
              refine skip_ (w1 := ?_) (by rfl) rfl ?_ ?_
              rotate_left
              ·go_simp
               rfl
              refine hK.out _ _ ?_
              clear hK K
              refine done_ (done_of HT_.out (by kernel_rfl)) ?_
              have hcz25_0 : w22.cell? ⟨gb899, 0, none⟩ = some (.int .i64 ((rd_T51 l0 x7_2).f0.f0)) := (blk_cell BK899.out 0).trans rfl
              have hcz25_1 : w22.cell? ⟨gb899, 1, none⟩ = some (.int .i64 ((rd_T51 l0 x7_2).f0.f1)) := (blk_cell BK899.out 1).trans rfl
              have hcz25_2 : w22.cell? ⟨gb899, 2, none⟩ = some (.int .i64 ((rd_T51 l0 x7_2).f1.f0)) := (blk_cell BK899.out 2).trans rfl
              have hcz25_3 : w22.cell? ⟨gb899, 3, none⟩ = some (.int .i64 ((rd_T51 l0 x7_2).f1.f1)) := (blk_cell BK899.out 3).trans rfl
              have hfz25_0 := blk_frozen BK899.out 0
              have hfz25_1 := blk_frozen BK899.out 1
              have hfz25_2 := blk_frozen BK899.out 2
              have hfz25_3 := blk_frozen BK899.out 3
              try go_wp2
              go_ret2
              exact ⟨_, by first | rfl | (simp [errW_none, errW_some] <;> rfl) | (simp [*, errW_none, errW_some] <;> rfl), by first | exact Kd.R_nil _ _ _ _ _ | exact Kd.N_nil _ _ _ _ _ | exact Kd.V_nil _ _ _ _ _ | exact Kd.Q_nil _ _ _ _ _ | exact Kd.S_nil _ _ _ _ _, bl_⟩
             ·rw [if_neg c18] at H
              have c18b0 : decide (524288 < (wrap64 (((rd_T51 l0 x7_2).f0.f1) + ((rd_T51 l0 a1).f0.f1)))) = false := decide_eq_false c18
              clear c18
              by_cases c26 : x6_2.length < 4398046511104
              ·rw [if_pos c26] at H
               have LMc26 := a_ c26
               clear c26
               obtain ⟨y902, hy902⟩ : ∃ y_ : List (S51), y_ = (x6_2 ++ [(⟨(⟨wrap64 (((rd_T51 l0 x7_2).f0.f0) + ((rd_T51 l0 a1).f0.f0)), wrap64 (((rd_T51 l0 x7_2).f0.f1) + ((rd_T51 l0 a1).f0.f1))⟩ : S49), (⟨(rd_T51 l0 x7_2).f1.f0, (rd_T51 l0 x7_2).f1.f1⟩ : S49)⟩ : S51)]) := ⟨_, rfl⟩
               replace H : (waterhourref04_Without.l0 k2 l0 a1 y902 (wrap64 (x7_2 + 1))) = some (r1, r2) := by first | (rw [hy902]; with_reducible exact H) | (have H2_ := (Option.bind_some _ _).symm.trans H; rw [hy902]; with_reducible exact H2_) | (have H2_ := (Option.bind_some _ _).symm.trans H; with_reducible exact H2_) | with_reducible exact H | (rw [hy902]; exact H) | exact H
               have Ny902 := a_ hy902
               clear hy902
               have H' := a_ H
               clear H
               have p898 : 0 ≤ (x7_2 : Int) := of_decide_eq_true (by first | (with_reducible assumption) | assumption)
               have q898 : x7_2 < (l0.length : Int) := of_decide_eq_true (by first | (with_reducible assumption) | assumption)
               obtain ⟨ad898, e898, hx898_0, hx898_1, hx898_2, hx898_3⟩ := at_T51 HR0.out x7_2 p898 q898
               cases e898
               replace hx898_0 := (HB.out.cell (World.block_lt_of_cell? w _ hx898_0)).trans hx898_0
               replace hx898_1 := (HB.out.cell (World.block_lt_of_cell? w _ hx898_1)).trans hx898_1
               replace hx898_2 := (HB.out.cell (World.block_lt_of_cell? w _ hx898_2)).trans hx898_2
               replace hx898_3 := (HB.out.cell (World.block_lt_of_cell? w _ hx898_3)).trans hx898_3
               replace p898 := eq_true p898
               replace q898 := eq_true q898
               try go_wp2_with (first | ((with_reducible refine gate_dst (N := 8) rfl ?_); (try (refine gate_guard (by rfl) ?_; dsimp only)); refine box_event ?hg (N := 8) ?hd (cs := #[.int .i64 0, .int .i64 0, .int .i64 0, .int .i64 0]) (t := 51) ?hr ?_; (case hd => rfl); (case hg => rfl); (case hr => first | (go_simp; done) | (go_simp; rfl)); intro gb899 hg w27 hbox hb; have n0_ := a_ (Kd.R_below (Kd.R_elderB (rl_ HO_6.out) gb899 (Nat.le_of_eq hg.symm)) hb); have n1_ := a_ (below_step bl_ hb); have n2_ := a_ (hbox); have n3_ := a_ ((bz_ (w := w) hg)); have n4_ := a_ ((bz_ (w := w) hg)); clear HO_6; clear HB; have HO_6 := n0_; have HB := n1_; have BK899 := n2_; have GW899 := n3_; have GE899 := n4_; clear n0_ n1_ n2_ n3_ n4_; clear hb hbox hg; have hcz28_0 : w27.cell? ⟨gb899, 0, none⟩ = some (.int .i64 0) := (blk_cell BK899.out 0).trans rfl; have hcz28_1 : w27.cell? ⟨gb899, 1, none⟩ = some (.int .i64 0) := (blk_cell BK899.out 1).trans rfl; have hcz28_2 : w27.cell? ⟨gb899, 2, none⟩ = some (.int .i64 0) := (blk_cell BK899.out 2).trans rfl; have hcz28_3 : w27.cell? ⟨gb899, 3, none⟩ = some (.int .i64 0) := (blk_cell BK899.out 3).trans rfl; have hfz28_0 := blk_frozen BK899.out 0; have hfz28_1 := blk_frozen BK899.out 1; have hfz28_2 := blk_frozen BK899.out 2; have hfz28_3 := blk_frozen BK899.out 3))
               have n0_ : Aside0 (Kd.R k51 51 ((((w27.setCell ⟨gb899, 0, none⟩ (.int .i64 ((rd_T51 l0 x7_2).f0.f0))).setCell ⟨gb899, 1, none⟩ (.int .i64 ((rd_T51 l0 x7_2).f0.f1))).setCell ⟨gb899, 2, none⟩ (.int .i64 ((rd_T51 l0 x7_2).f1.f0))).setCell ⟨gb899, 3, none⟩ (.int .i64 ((rd_T51 l0 x7_2).f1.f1))) w.heap.size (fun k_ => k_ ≠ gb899) u6 x6_2) := ⟨by (with_reducible repeat (first | apply Kd.R_alloc | apply Kd.R_drewN | apply Kd.R_drew)); exact Kd.R_mono (Kd.R_far (p := ⟨gb899, 3, none⟩) (Kd.R_far (p := ⟨gb899, 2, none⟩) (Kd.R_far (p := ⟨gb899, 1, none⟩) (Kd.R_far (p := ⟨gb899, 0, none⟩) (Kd.R_mono HO_6.out (fun k_ hk => (⟨hk, hk.2⟩ : _ ∧ k_ ≠ gb899))) (fun _ hk => hk.2) (.int .i64 ((rd_T51 l0 x7_2).f0.f0))) (fun _ hk => hk.2) (.int .i64 ((rd_T51 l0 x7_2).f0.f1))) (fun _ hk => hk.2) (.int .i64 ((rd_T51 l0 x7_2).f1.f0))) (fun _ hk => hk.2) (.int .i64 ((rd_T51 l0 x7_2).f1.f1))) (fun _ hk => hk.1.2)⟩
               have n1_ : Aside0 (((((w27.setCell ⟨gb899, 0, none⟩ (.int .i64 ((rd_T51 l0 x7_2).f0.f0))).setCell ⟨gb899, 1, none⟩ (.int .i64 ((rd_T51 l0 x7_2).f0.f1))).setCell ⟨gb899, 2, none⟩ (.int .i64 ((rd_T51 l0 x7_2).f1.f0))).setCell ⟨gb899, 3, none⟩ (.int .i64 ((rd_T51 l0 x7_2).f1.f1))).heap[gb899]? = some (.cells #[.int .i64 ((rd_T51 l0 x7_2).f0.f0), .int .i64 ((rd_T51 l0 x7_2).f0.f1), .int .i64 ((rd_T51 l0 x7_2).f1.f0), .int .i64 ((rd_T51 l0 x7_2).f1.f1)] 51 (0, 0))) := ⟨by (with_reducible repeat (first | refine blk_drewN ?_ _ | refine blk_drew ?_ | refine blk_alloc ?_ _)); refine blk_put (cs := #[.int .i64 ((rd_T51 l0 x7_2).f0.f0), .int .i64 ((rd_T51 l0 x7_2).f0.f1), .int .i64 ((rd_T51 l0 x7_2).f1.f0), .int .i64 0]) ?_ 3 _ rfl; (with_reducible repeat (first | refine blk_drewN ?_ _ | refine blk_drew ?_ | refine blk_alloc ?_ _)); refine blk_put (cs := #[.int .i64 ((rd_T51 l0 x7_2).f0.f0), .int .i64 ((rd_T51 l0 x7_2).f0.f1), .int .i64 0, .int .i64 0]) ?_ 2 _ rfl; (with_reducible repeat (first | refine blk_drewN ?_ _ | refine blk_drew ?_ | refine blk_alloc ?_ _)); refine blk_put (cs := #[.int .i64 ((rd_T51 l0 x7_2).f0.f0), .int .i64 0, .int .i64 0, .int .i64 0]) ?_ 1 _ rfl; (with_reducible repeat (first | refine blk_drewN ?_ _ | refine blk_drew ?_ | refine blk_alloc ?_ _)); refine blk_put (cs := #[.int .i64 0, .int .i64 0, .int .i64 0, .int .i64 0]) ?_ 0 _ rfl; (with_reducible repeat (first | refine blk_drewN ?_ _ | refine blk_drew ?_ | refine blk_alloc ?_ _)); exact BK899.out⟩
               have n2_ : Aside0 (Below w.heap.size w ((((w27.setCell ⟨gb899, 0, none⟩ (.int .i64 ((rd_T51 l0 x7_2).f0.f0))).setCell ⟨gb899, 1, none⟩ (.int .i64 ((rd_T51 l0 x7_2).f0.f1))).setCell ⟨gb899, 2, none⟩ (.int .i64 ((rd_T51 l0 x7_2).f1.f0))).setCell ⟨gb899, 3, none⟩ (.int .i64 ((rd_T51 l0 x7_2).f1.f1)))) := ⟨bl_⟩
               (try clear HO_6)
               (try clear BK899)
               (try clear HB)
               generalize ((((w27.setCell ⟨gb899, 0, none⟩ (.int .i64 ((rd_T51 l0 x7_2).f0.f0))).setCell ⟨gb899, 1, none⟩ (.int .i64 ((rd_T51 l0 x7_2).f0.f1))).setCell ⟨gb899, 2, none⟩ (.int .i64 ((rd_T51 l0 x7_2).f1.f0))).setCell ⟨gb899, 3, none⟩ (.int .i64 ((rd_T51 l0 x7_2).f1.f1))) = w29 at n0_ n1_ n2_ ⊢
               have HO_6 := n0_
               have BK899 := n1_
               have HB := n2_
               clear n0_ n1_ n2_
               have n0_ := a_ (Kd.R_drew HO_6.out)
               have n1_ := a_ (blk_drew BK899.out)
               have n2_ := a_ (below_drew1 HB.out)
               clear HO_6
               clear BK899
               clear HB
               have HO_6 := n0_
               have BK899 := n1_
               have HB := n2_
               clear n0_ n1_ n2_
               have p900 : 0 ≤ (a1 : Int) := of_decide_eq_true (by first | (with_reducible assumption) | assumption)
               have q900 : a1 < (l0.length : Int) := of_decide_eq_true (by first | (with_reducible assumption) | assumption)
               obtain ⟨ad900, e900, hx900_0, hx900_1, hx900_2, hx900_3⟩ := at_T51 HR0.out a1 p900 q900
               have hw900_3 := hx900_3
               have hw900_2 := hx900_2
               have hw900_1 := hx900_1
               have hw900_0 := hx900_0
               obtain rfl : ad898 = ad900 := (by injection e900)
               replace hx900_0 := (HB.out.cell (World.block_lt_of_cell? w _ hx900_0)).trans hx900_0
               replace hx900_1 := (HB.out.cell (World.block_lt_of_cell? w _ hx900_1)).trans hx900_1
               replace hx900_2 := (HB.out.cell (World.block_lt_of_cell? w _ hx900_2)).trans hx900_2
               replace hx900_3 := (HB.out.cell (World.block_lt_of_cell? w _ hx900_3)).trans hx900_3
               replace p900 := eq_true p900
               replace q900 := eq_true q900
               have p901 : 0 ≤ (a1 : Int) := of_decide_eq_true (by first | (with_reducible assumption) | assumption)
               have q901 : a1 < (l0.length : Int) := of_decide_eq_true (by first | (with_reducible assumption) | assumption)
               obtain ⟨ad901, e901, hx901_0, hx901_1, hx901_2, hx901_3⟩ := at_T51 HR0.out a1 p901 q901
               have hw901_3 := hx901_3
               have hw901_2 := hx901_2
               have hw901_1 := hx901_1
               have hw901_0 := hx901_0
               obtain rfl : ad898 = ad901 := (by injection e901)
               replace hx901_0 := (HB.out.cell (World.block_lt_of_cell? w _ hx901_0)).trans hx901_0
               replace hx901_1 := (HB.out.cell (World.block_lt_of_cell? w _ hx901_1)).trans hx901_1
               replace hx901_2 := (HB.out.cell (World.block_lt_of_cell? w _ hx901_2)).trans hx901_2
               replace hx901_3 := (HB.out.cell (World.block_lt_of_cell? w _ hx901_3)).trans hx901_3
               replace p901 := eq_true p901
               replace q901 := eq_true q901
               refine start_ (n := 23) (S := fun w' => w'.cell? ⟨gb899, 0, none⟩ = some (.int .i64 ((rd_T51 l0 x7_2).f0.f0)) ∧ w'.cell? ⟨gb899, 1, none⟩ = some (.int .i64 ((rd_T51 l0 x7_2).f0.f1)) ∧ w'.cell? ⟨gb899, 2, none⟩ = some (.int .i64 ((rd_T51 l0 x7_2).f1.f0)) ∧ w'.cell? ⟨gb899, 3, none⟩ = some (.int .i64 ((rd_T51 l0 x7_2).f1.f1)) ∧ w'.cell? (ad898.add ((a1).toNat * 4)) = some (.int .i64 ((rd_T51 l0 a1).f0.f0)) ∧ w'.cell? ⟨(ad898.add ((a1).toNat * 4)).block, (ad898.add ((a1).toNat * 4)).off + 1, none⟩ = some (.int .i64 ((rd_T51 l0 a1).f0.f1)) ∧ w'.cell? ⟨(ad898.add ((a1).toNat * 4)).block, (ad898.add ((a1).toNat * 4)).off + 2, none⟩ = some (.int .i64 ((rd_T51 l0 a1).f1.f0)) ∧ w'.cell? ⟨(ad898.add ((a1).toNat * 4)).block, (ad898.add ((a1).toNat * 4)).off + 3, none⟩ = some (.int .i64 ((rd_T51 l0 a1).f1.f1)) ∧ w'.cell? (ad898.add ((a1).toNat * 4)) = some (.int .i64 ((rd_T51 l0 a1).f0.f0)) ∧ w'.cell? ⟨(ad898.add ((a1).toNat * 4)).block, (ad898.add ((a1).toNat * 4)).off + 1, none⟩ = some (.int .i64 ((rd_T51 l0 a1).f0.f1)) ∧ w'.cell? ⟨(ad898.add ((a1).toNat * 4)).block, (ad898.add ((a1).toNat * 4)).off + 2, none⟩ = some (.int .i64 ((rd_T51 l0 a1).f1.f0)) ∧ w'.cell? ⟨(ad898.add ((a1).toNat * 4)).block, (ad898.add ((a1).toNat * 4)).off + 3, none⟩ = some (.int .i64 ((rd_T51 l0 a1).f1.f1))) (ds := [22]) #[false, false, false, false, false, false, false, false, false, false, false, false, false, false, false, false, false, false, false, false, false, false, false] (by kernel_rfl) rfl rfl ⟨(blk_cell BK899.out 0).trans rfl, (blk_cell BK899.out 1).trans rfl, (blk_cell BK899.out 2).trans rfl, (blk_cell BK899.out 3).trans rfl, ((HB.out.cell (World.block_lt_of_cell? w _ hw900_0)).trans hw900_0), ((HB.out.cell (World.block_lt_of_cell? w _ hw900_1)).trans hw900_1), ((HB.out.cell (World.block_lt_of_cell? w _ hw900_2)).trans hw900_2), ((HB.out.cell (World.block_lt_of_cell? w _ hw900_3)).trans hw900_3), ((HB.out.cell (World.block_lt_of_cell? w _ hw901_0)).trans hw901_0), ((HB.out.cell (World.block_lt_of_cell? w _ hw901_1)).trans hw901_1), ((HB.out.cell (World.block_lt_of_cell? w _ hw901_2)).trans hw901_2), ((HB.out.cell (World.block_lt_of_cell? w _ hw901_3)).trans hw901_3)⟩ (fun hHeld => ?_); refine with_tabW waterhourref04_Without.tab12 waterhourref04_Without.bits12 (fun HT_ HW_ => ?_)
               generalize w29.drew = w30 at HO_6 BK899 HB hx900_0 hx900_1 hx900_2 hx900_3 hx901_0 hx901_1 hx901_2 hx901_3 hHeld ⊢
               refine pz_ 0 38 HT_ ?_
               refine pz_ 1 39 HT_ ?_
               refine pz_ 3 41 HT_ ?_
               refine pz_ 4 42 HT_ ?_
               refine pz_ 5 43 HT_ ?_
               refine pz_ 6 44 HT_ ?_
               refine pz_ 7 45 HT_ ?_
               refine pz_ 10 48 HT_ ?_
               refine pz_ 11 49 HT_ ?_
               refine pz_ 13 51 HT_ ?_
               refine pz_ 14 52 HT_ ?_
               refine pz_ 15 53 HT_ ?_
               refine pz_ 16 54 HT_ ?_
               refine pz_ 17 55 HT_ ?_
               refine take_ (i := 2) (N := some 40) (v := ?_) (a' := ?_) #[true, true, true, true, true, true, true, true, false, false, true, true, false, true, true, true, true, true, false, false, false, false, false] rfl rfl (take_ofW HT_.out HW_.out (by kernel_rfl)) (fun _ _ _ h => h) (Or.inl ⟨by rfl, ?_⟩) hHeld ?_ ?_
               rotate_left
               ·rintro w' ⟨s0, s1, s2, s3, s4, s5, s6, s7, s8, s9, s10, s11⟩
                go_simp
                with_reducible rfl
               rotate_left
               ·simp only [Act.put, List.setIfInBounds_toArray, List.set_cons_zero, List.set_cons_succ, i64_w, i32_w]
                rfl
               refine take_ (i := 8) (N := some 46) (v := ?_) (a' := ?_) #[true, true, true, true, true, true, true, true, true, false, true, true, false, true, true, true, true, true, false, false, false, false, false] rfl rfl (take_ofW HT_.out HW_.out (by kernel_rfl)) (fun _ _ _ h => h) (Or.inl ⟨by rfl, ?_⟩) hHeld ?_ ?_
               rotate_left
               ·rintro w' ⟨s0, s1, s2, s3, s4, s5, s6, s7, s8, s9, s10, s11⟩
                go_simp
                with_reducible rfl
               rotate_left
               ·simp only [Act.put, List.setIfInBounds_toArray, List.set_cons_zero, List.set_cons_succ, i64_w, i32_w]
                rfl
               refine pz_ 9 47 HT_ ?_
               refine take_ (i := 12) (N := some 50) (v := ?_) (a' := ?_) #[true, true, true, true, true, true, true, true, true, true, true, true, true, true, true, true, true, true, false, false, false, false, false] rfl rfl (take_ofW HT_.out HW_.out (by kernel_rfl)) (fun _ _ _ h => h) (Or.inl ⟨by rfl, ?_⟩) hHeld ?_ ?_
               rotate_left
               ·rintro w' ⟨s0, s1, s2, s3, s4, s5, s6, s7, s8, s9, s10, s11⟩
                go_simp
                with_reducible rfl
               rotate_left
               ·simp only [Act.put, List.setIfInBounds_toArray, List.set_cons_zero, List.set_cons_succ, i64_w, i32_w]
                rfl
               refine take_ (i := 18) (N := some 56) (v := ?_) (a' := ?_) #[true, true, true, true, true, true, true, true, true, true, true, true, true, true, true, true, true, true, true, false, false, false, false] rfl rfl (take_ofW HT_.out HW_.out (by kernel_rfl)) (fun _ _ _ h => h) (Or.inl ⟨by rfl, ?_⟩) hHeld ?_ ?_
               rotate_left
               ·rintro w' ⟨s0, s1, s2, s3, s4, s5, s6, s7, s8, s9, s10, s11⟩
                go_simp
                with_reducible rfl
               rotate_left
               ·simp only [Act.put, List.setIfInBounds_toArray, List.set_cons_zero, List.set_cons_succ, i64_w, i32_w]
                rfl
               refine pz_ 19 57 HT_ ?_
               refine pz_ 20 58 HT_ ?_
               refine pz_ 21 59 HT_ ?_
               refine last_ (i := 22) (N := none) #[true, true, true, true, true, true, true, true, true, true, true, true, true, true, true, true, true, true, true, true, true, true, true] rfl rfl (one_of HT_.out (by kernel_rfl)) (by decide) (fun K hK => ?_)
               have hs31 : w30.cell? ⟨gb899, 0, none⟩ = some (.int .i64 ((rd_T51 l0 x7_2).f0.f0)) := (blk_cell BK899.out 0).trans rfl
               have hfs31 := blk_frozen BK899.out 0
               have hs32 : w30.cell? ⟨gb899, 1, none⟩ = some (.int .i64 ((rd_T51 l0 x7_2).f0.f1)) := (blk_cell BK899.out 1).trans rfl
               have hfs32 := blk_frozen BK899.out 1
               refine skip_ (w1 := ?_) (by rfl) rfl ?_ ?_
               rotate_left
               ·go_simp
                rfl
               refine hK.out _ _ ?_
               clear hK K
               refine done_ (done_of HT_.out (by kernel_rfl)) ?_
               have hcz33_0 : w30.cell? ⟨gb899, 0, none⟩ = some (.int .i64 ((rd_T51 l0 x7_2).f0.f0)) := (blk_cell BK899.out 0).trans rfl
               have hcz33_1 : w30.cell? ⟨gb899, 1, none⟩ = some (.int .i64 ((rd_T51 l0 x7_2).f0.f1)) := (blk_cell BK899.out 1).trans rfl
               have hcz33_2 : w30.cell? ⟨gb899, 2, none⟩ = some (.int .i64 ((rd_T51 l0 x7_2).f1.f0)) := (blk_cell BK899.out 2).trans rfl
               have hcz33_3 : w30.cell? ⟨gb899, 3, none⟩ = some (.int .i64 ((rd_T51 l0 x7_2).f1.f1)) := (blk_cell BK899.out 3).trans rfl
               have hfz33_0 := blk_frozen BK899.out 0
               have hfz33_1 := blk_frozen BK899.out 1
               have hfz33_2 := blk_frozen BK899.out 2
               have hfz33_3 := blk_frozen BK899.out 3
               try go_wp2_with (first | ((with_reducible refine gate_builtin (b := .append) (xs := #[.tmp 64, .tmp 66]) rfl ?_); (try (refine gate_guard (by rfl) ?_; dsimp only)); at_builtin; refine Kd.R_append k51 (w0 := w) w.heap.size rfl (.tmp 64) (.tmp 66) 23 51 (.agg #[(.int .i64 0), (.int .i64 0), (.int .i64 0), (.int .i64 0)]) 32 rfl Tryd.underlying23 info51 rfl (by decide) (by omega) u6 x6_2 (⟨(⟨wrap64 (((rd_T51 l0 x7_2).f0.f0) + ((rd_T51 l0 a1).f0.f0)), wrap64 (((rd_T51 l0 x7_2).f0.f1) + ((rd_T51 l0 a1).f0.f1))⟩ : S49), (⟨(rd_T51 l0 x7_2).f1.f0, (rd_T51 l0 x7_2).f1.f1⟩ : S49)⟩ : S51) [.int .i64 (wrap64 (((rd_T51 l0 x7_2).f0.f0) + ((rd_T51 l0 a1).f0.f0))), .int .i64 (wrap64 (((rd_T51 l0 x7_2).f0.f1) + ((rd_T51 l0 a1).f0.f1))), .int .i64 ((rd_T51 l0 x7_2).f1.f0), .int .i64 ((rd_T51 l0 x7_2).f1.f1)] (fun k_ => k_ ≠ gb899) (fun _ => False) rfl (by first | (go_simp; done) | (go_simp; rfl)) ?aP (fun _ hk => hk.elim) ?aF ?aO ?aB ?aS ?aL ?_; (case aP => exact k51_mkM _ _ _ (⟨(⟨wrap64 (((rd_T51 l0 x7_2).f0.f0) + ((rd_T51 l0 a1).f0.f0)), wrap64 (((rd_T51 l0 x7_2).f0.f1) + ((rd_T51 l0 a1).f0.f1))⟩ : S49), (⟨(rd_T51 l0 x7_2).f1.f0, (rd_T51 l0 x7_2).f1.f1⟩ : S49)⟩ : S51)); (case aB => exact bl_); (case aF => exact (fun k_ hk => Kd.freshB (g := gb899) (o := .cells #[.int .i64 (wrap64 (((rd_T51 l0 x7_2).f0.f0) + ((rd_T51 l0 a1).f0.f0))), .int .i64 (wrap64 (((rd_T51 l0 x7_2).f0.f1) + ((rd_T51 l0 a1).f0.f1))), .int .i64 ((rd_T51 l0 x7_2).f1.f0), .int .i64 ((rd_T51 l0 x7_2).f1.f1)] 51 (0, 0)) (by (with_reducible repeat (first | refine blk_drewN ?_ _ | refine blk_drew ?_ | refine blk_alloc ?_ _)); refine blk_put (cs := #[.int .i64 (wrap64 (((rd_T51 l0 x7_2).f0.f0) + ((rd_T51 l0 a1).f0.f0))), .int .i64 ((rd_T51 l0 x7_2).f0.f1), .int .i64 ((rd_T51 l0 x7_2).f1.f0), .int .i64 ((rd_T51 l0 x7_2).f1.f1)]) ?_ 1 _ rfl; (with_reducible repeat (first | refine blk_drewN ?_ _ | refine blk_drew ?_ | refine blk_alloc ?_ _)); refine blk_put (cs := #[.int .i64 ((rd_T51 l0 x7_2).f0.f0), .int .i64 ((rd_T51 l0 x7_2).f0.f1), .int .i64 ((rd_T51 l0 x7_2).f1.f0), .int .i64 ((rd_T51 l0 x7_2).f1.f1)]) ?_ 0 _ rfl; (with_reducible repeat (first | refine blk_drewN ?_ _ | refine blk_drew ?_ | refine blk_alloc ?_ _)); exact BK899.out) k_ hk)); (case aO => exact (by (with_reducible repeat (first | apply Kd.R_alloc | apply Kd.R_drewN | apply Kd.R_drew)); exact Kd.R_mono (Kd.R_far (p := ⟨gb899, 1, none⟩) (Kd.R_far (p := ⟨gb899, 0, none⟩) (Kd.R_mono HO_6.out (fun k_ hk => (⟨hk, hk⟩ : _ ∧ k_ ≠ gb899))) (fun _ hk => hk.2) (.int .i64 (wrap64 (((rd_T51 l0 x7_2).f0.f0) + ((rd_T51 l0 a1).f0.f0))))) (fun _ hk => hk.2) (.int .i64 (wrap64 (((rd_T51 l0 x7_2).f0.f1) + ((rd_T51 l0 a1).f0.f1))))) (fun _ hk => hk.1))); (case aS => exact (below_size bl_)); (case aL => have := LMc26.out; omega); intro v903 w34 ho hb hg hat; rw [← Ny902.out] at ho; have n0_ := a_ (blk_grown (g := gb899) (o := .cells #[.int .i64 (wrap64 (((rd_T51 l0 x7_2).f0.f0) + ((rd_T51 l0 a1).f0.f0))), .int .i64 (wrap64 (((rd_T51 l0 x7_2).f0.f1) + ((rd_T51 l0 a1).f0.f1))), .int .i64 ((rd_T51 l0 x7_2).f1.f0), .int .i64 ((rd_T51 l0 x7_2).f1.f1)] 51 (0, 0)) (by (with_reducible repeat (first | refine blk_drewN ?_ _ | refine blk_drew ?_ | refine blk_alloc ?_ _)); refine blk_put (cs := #[.int .i64 (wrap64 (((rd_T51 l0 x7_2).f0.f0) + ((rd_T51 l0 a1).f0.f0))), .int .i64 ((rd_T51 l0 x7_2).f0.f1), .int .i64 ((rd_T51 l0 x7_2).f1.f0), .int .i64 ((rd_T51 l0 x7_2).f1.f1)]) ?_ 1 _ rfl; (with_reducible repeat (first | refine blk_drewN ?_ _ | refine blk_drew ?_ | refine blk_alloc ?_ _)); refine blk_put (cs := #[.int .i64 ((rd_T51 l0 x7_2).f0.f0), .int .i64 ((rd_T51 l0 x7_2).f0.f1), .int .i64 ((rd_T51 l0 x7_2).f1.f0), .int .i64 ((rd_T51 l0 x7_2).f1.f1)]) ?_ 0 _ rfl; (with_reducible repeat (first | refine blk_drewN ?_ _ | refine blk_drew ?_ | refine blk_alloc ?_ _)); exact BK899.out) hg (Kd.R_away HO_6.out (fun _ hk => hk))); have n1_ := a_ (hb); have n2_ := a_ (ho); clear BK899; clear HB; clear HO_6; have BK899 := n0_; have HB := n1_; have HO904 := n2_; clear n0_ n1_ n2_; clear ho hb hg hat))
               go_roundg k2
               case measure => have := HJ4.out; have := HK2.out; omega
               case rel => exact ⟨(y902), (wrap64 (x7_2 + 1)), (by first | rfl | (simp; done) | (simp [*]; done)), H', ⟨by have := HJ4.out; have := HK2.out; omega⟩, ⟨rl_ (Kd.R_mono HO904.out (fun _ hk => trivial))⟩, ⟨bl_⟩⟩
              ·rw [if_neg c26] at H
               exact absurd H (by simp)
            ·rw [if_neg c17] at H
             exact absurd H (by simp)
           ·rw [if_neg c16] at H
            exact absurd H (by simp)
          ·rw [if_neg c15] at H
           have c15b0 : (x7_2 == (wrap64 (a1 + 1))) = false := beq_eq_false_iff_ne.mpr c15
           have c15b1 : (x7_2 != (wrap64 (a1 + 1))) = true := bne_iff_ne.mpr c15
           by_cases c35 : ((rd_T51 l0 x7_2).f0.f1) > 524288
           ·rw [if_pos c35] at H
            have c35b0 : decide (524288 < ((rd_T51 l0 x7_2).f0.f1)) = true := decide_eq_true c35
            clear c35
            simp only [Option.some.injEq, Prod.mk.injEq] at H
            obtain ⟨rfl, rfl⟩ := H
            have p898 : 0 ≤ (x7_2 : Int) := of_decide_eq_true (by first | (with_reducible assumption) | assumption)
            have q898 : x7_2 < (l0.length : Int) := of_decide_eq_true (by first | (with_reducible assumption) | assumption)
            obtain ⟨ad898, e898, hx898_0, hx898_1, hx898_2, hx898_3⟩ := at_T51 HR0.out x7_2 p898 q898
            cases e898
            replace hx898_0 := (HB.out.cell (World.block_lt_of_cell? w _ hx898_0)).trans hx898_0
            replace hx898_1 := (HB.out.cell (World.block_lt_of_cell? w _ hx898_1)).trans hx898_1
            replace hx898_2 := (HB.out.cell (World.block_lt_of_cell? w _ hx898_2)).trans hx898_2
            replace hx898_3 := (HB.out.cell (World.block_lt_of_cell? w _ hx898_3)).trans hx898_3
            replace p898 := eq_true p898
            replace q898 := eq_true q898
            go_wp2_with (first | ((with_reducible refine gate_dst (N := 8) rfl ?_); (try (refine gate_guard (by rfl) ?_; dsimp only)); refine box_event ?hg (N := 8) ?hd (cs := #[.int .i64 0, .int .i64 0, .int .i64 0, .int .i64 0]) (t := 51) ?hr ?_; (case hd => rfl); (case hg => rfl); (case hr => first | (go_simp; done) | (go_simp; rfl)); intro gb899 hg w36 hbox hb; have n0_ := a_ (Kd.R_below (Kd.R_elderB (rl_ HO_6.out) gb899 (Nat.le_of_eq hg.symm)) hb); have n1_ := a_ (below_step bl_ hb); have n2_ := a_ (hbox); have n3_ := a_ ((bz_ (w := w) hg)); have n4_ := a_ ((bz_ (w := w) hg)); clear HO_6; clear HB; have HO_6 := n0_; have HB := n1_; have BK899 := n2_; have GW899 := n3_; have GE899 := n4_; clear n0_ n1_ n2_ n3_ n4_; clear hb hbox hg; have hcz37_0 : w36.cell? ⟨gb899, 0, none⟩ = some (.int .i64 0) := (blk_cell BK899.out 0).trans rfl; have hcz37_1 : w36.cell? ⟨gb899, 1, none⟩ = some (.int .i64 0) := (blk_cell BK899.out 1).trans rfl; have hcz37_2 : w36.cell? ⟨gb899, 2, none⟩ = some (.int .i64 0) := (blk_cell BK899.out 2).trans rfl; have hcz37_3 : w36.cell? ⟨gb899, 3, none⟩ = some (.int .i64 0) := (blk_cell BK899.out 3).trans rfl; have hfz37_0 := blk_frozen BK899.out 0; have hfz37_1 := blk_frozen BK899.out 1; have hfz37_2 := blk_frozen BK899.out 2; have hfz37_3 := blk_frozen BK899.out 3))
            go_ret2
            exact ⟨_, by first | rfl | (simp [errW_none, errW_some] <;> rfl) | (simp [*, errW_none, errW_some] <;> rfl), by first | exact Kd.R_nil _ _ _ _ _ | exact Kd.N_nil _ _ _ _ _ | exact Kd.V_nil _ _ _ _ _ | exact Kd.Q_nil _ _ _ _ _ | exact Kd.S_nil _ _ _ _ _, bl_⟩
           ·rw [if_neg c35] at H
            have c35b0 : decide (524288 < ((rd_T51 l0 x7_2).f0.f1)) = false := decide_eq_false c35
            clear c35
            by_cases c38 : x6_2.length < 4398046511104
            ·rw [if_pos c38] at H
             have LMc38 := a_ c38
             clear c38
             obtain ⟨y905, hy905⟩ : ∃ y_ : List (S51), y_ = (x6_2 ++ [(⟨(⟨(rd_T51 l0 x7_2).f0.f0, (rd_T51 l0 x7_2).f0.f1⟩ : S49), (⟨(rd_T51 l0 x7_2).f1.f0, (rd_T51 l0 x7_2).f1.f1⟩ : S49)⟩ : S51)]) := ⟨_, rfl⟩
             replace H : (waterhourref04_Without.l0 k2 l0 a1 y905 (wrap64 (x7_2 + 1))) = some (r1, r2) := by first | (rw [hy905]; with_reducible exact H) | (have H2_ := (Option.bind_some _ _).symm.trans H; rw [hy905]; with_reducible exact H2_) | (have H2_ := (Option.bind_some _ _).symm.trans H; with_reducible exact H2_) | with_reducible exact H | (rw [hy905]; exact H) | exact H
             have Ny905 := a_ hy905
             clear hy905
             have H' := a_ H
             clear H
             have p898 : 0 ≤ (x7_2 : Int) := of_decide_eq_true (by first | (with_reducible assumption) | assumption)
             have q898 : x7_2 < (l0.length : Int) := of_decide_eq_true (by first | (with_reducible assumption) | assumption)
             obtain ⟨ad898, e898, hx898_0, hx898_1, hx898_2, hx898_3⟩ := at_T51 HR0.out x7_2 p898 q898
             cases e898
             replace hx898_0 := (HB.out.cell (World.block_lt_of_cell? w _ hx898_0)).trans hx898_0
             replace hx898_1 := (HB.out.cell (World.block_lt_of_cell? w _ hx898_1)).trans hx898_1
             replace hx898_2 := (HB.out.cell (World.block_lt_of_cell? w _ hx898_2)).trans hx898_2
             replace hx898_3 := (HB.out.cell (World.block_lt_of_cell? w _ hx898_3)).trans hx898_3
             replace p898 := eq_true p898
             replace q898 := eq_true q898
             go_wp2_with (first | ((with_reducible refine gate_dst (N := 8) rfl ?_); (try (refine gate_guard (by rfl) ?_; dsimp only)); refine box_event ?hg (N := 8) ?hd (cs := #[.int .i64 0, .int .i64 0, .int .i64 0, .int .i64 0]) (t := 51) ?hr ?_; (case hd => rfl); (case hg => rfl); (case hr => first | (go_simp; done) | (go_simp; rfl)); intro gb899 hg w39 hbox hb; have n0_ := a_ (Kd.R_below (Kd.R_elderB (rl_ HO_6.out) gb899 (Nat.le_of_eq hg.symm)) hb); have n1_ := a_ (below_step bl_ hb); have n2_ := a_ (hbox); have n3_ := a_ ((bz_ (w := w) hg)); have n4_ := a_ ((bz_ (w := w) hg)); clear HO_6; clear HB; have HO_6 := n0_; have HB := n1_; have BK899 := n2_; have GW899 := n3_; have GE899 := n4_; clear n0_ n1_ n2_ n3_ n4_; clear hb hbox hg; have hcz40_0 : w39.cell? ⟨gb899, 0, none⟩ = some (.int .i64 0) := (blk_cell BK899.out 0).trans rfl; have hcz40_1 : w39.cell? ⟨gb899, 1, none⟩ = some (.int .i64 0) := (blk_cell BK899.out 1).trans rfl; have hcz40_2 : w39.cell? ⟨gb899, 2, none⟩ = some (.int .i64 0) := (blk_cell BK899.out 2).trans rfl; have hcz40_3 : w39.cell? ⟨gb899, 3, none⟩ = some (.int .i64 0) := (blk_cell BK899.out 3).trans rfl; have hfz40_0 := blk_frozen BK899.out 0; have hfz40_1 := blk_frozen BK899.out 1; have hfz40_2 := blk_frozen BK899.out 2; have hfz40_3 := blk_frozen BK899.out 3) | ((with_reducible refine gate_builtin (b := .append) (xs := #[.tmp 64, .tmp 66]) rfl ?_); (try (refine gate_guard (by rfl) ?_; dsimp only)); at_builtin; refine Kd.R_append k51 (w0 := w) w.heap.size rfl (.tmp 64) (.tmp 66) 23 51 (.agg #[(.int .i64 0), (.int .i64 0), (.int .i64 0), (.int .i64 0)]) 32 rfl Tryd.underlying23 info51 rfl (by decide) (by omega) u6 x6_2 (⟨(⟨(rd_T51 l0 x7_2).f0.f0, (rd_T51 l0 x7_2).f0.f1⟩ : S49), (⟨(rd_T51 l0 x7_2).f1.f0, (rd_T51 l0 x7_2).f1.f1⟩ : S49)⟩ : S51) [.int .i64 ((rd_T51 l0 x7_2).f0.f0), .int .i64 ((rd_T51 l0 x7_2).f0.f1), .int .i64 ((rd_T51 l0 x7_2).f1.f0), .int .i64 ((rd_T51 l0 x7_2).f1.f1)] (fun k_ => k_ ≠ gb899) (fun _ => False) rfl (by first | (go_simp; done) | (go_simp; rfl)) ?aP (fun _ hk => hk.elim) ?aF ?aO ?aB ?aS ?aL ?_; (case aP => exact k51_mkM _ _ _ (⟨(⟨(rd_T51 l0 x7_2).f0.f0, (rd_T51 l0 x7_2).f0.f1⟩ : S49), (⟨(rd_T51 l0 x7_2).f1.f0, (rd_T51 l0 x7_2).f1.f1⟩ : S49)⟩ : S51)); (case aB => exact bl_); (case aF => exact (fun k_ hk => Kd.freshB (g := gb899) (o := .cells #[.int .i64 ((rd_T51 l0 x7_2).f0.f0), .int .i64 ((rd_T51 l0 x7_2).f0.f1), .int .i64 ((rd_T51 l0 x7_2).f1.f0), .int .i64 ((rd_T51 l0 x7_2).f1.f1)] 51 (0, 0)) (by (with_reducible repeat (first | refine blk_drewN ?_ _ | refine blk_drew ?_ | refine blk_alloc ?_ _)); refine blk_put (cs := #[.int .i64 ((rd_T51 l0 x7_2).f0.f0), .int .i64 ((rd_T51 l0 x7_2).f0.f1), .int .i64 ((rd_T51 l0 x7_2).f1.f0), .int .i64 0]) ?_ 3 _ rfl; (with_reducible repeat (first | refine blk_drewN ?_ _ | refine blk_drew ?_ | refine blk_alloc ?_ _)); refine blk_put (cs := #[.int .i64 ((rd_T51 l0 x7_2).f0.f0), .int .i64 ((rd_T51 l0 x7_2).f0.f1), .int .i64 0, .int .i64 0]) ?_ 2 _ rfl; (with_reducible repeat (first | refine blk_drewN ?_ _ | refine blk_drew ?_ | refine blk_alloc ?_ _)); refine blk_put (cs := #[.int .i64 ((rd_T51 l0 x7_2).f0.f0), .int .i64 0, .int .i64 0, .int .i64 0]) ?_ 1 _ rfl; (with_reducible repeat (first | refine blk_drewN ?_ _ | refine blk_drew ?_ | refine blk_alloc ?_ _)); refine blk_put (cs := #[.int .i64 0, .int .i64 0, .int .i64 0, .int .i64 0]) ?_ 0 _ rfl; (with_reducible repeat (first | refine blk_drewN ?_ _ | refine blk_drew ?_ | refine blk_alloc ?_ _)); exact BK899.out) k_ hk)); (case aO => exact (by (with_reducible repeat (first | apply Kd.R_alloc | apply Kd.R_drewN | apply Kd.R_drew)); exact Kd.R_mono (Kd.R_far (p := ⟨gb899, 3, none⟩) (Kd.R_far (p := ⟨gb899, 2, none⟩) (Kd.R_far (p := ⟨gb899, 1, none⟩) (Kd.R_far (p := ⟨gb899, 0, none⟩) (Kd.R_mono HO_6.out (fun k_ hk => (⟨hk, hk.2⟩ : _ ∧ k_ ≠ gb899))) (fun _ hk => hk.2) (.int .i64 ((rd_T51 l0 x7_2).f0.f0))) (fun _ hk => hk.2) (.int .i64 ((rd_T51 l0 x7_2).f0.f1))) (fun _ hk => hk.2) (.int .i64 ((rd_T51 l0 x7_2).f1.f0))) (fun _ hk => hk.2) (.int .i64 ((rd_T51 l0 x7_2).f1.f1))) (fun _ hk => hk.1.2))); (case aS => exact (below_size bl_)); (case aL => have := LMc38.out; omega); intro v906 w41 ho hb hg hat; rw [← Ny905.out] at ho; have n0_ := a_ (blk_grown (g := gb899) (o := .cells #[.int .i64 ((rd_T51 l0 x7_2).f0.f0), .int .i64 ((rd_T51 l0 x7_2).f0.f1), .int .i64 ((rd_T51 l0 x7_2).f1.f0), .int .i64 ((rd_T51 l0 x7_2).f1.f1)] 51 (0, 0)) (by (with_reducible repeat (first | refine blk_drewN ?_ _ | refine blk_drew ?_ | refine blk_alloc ?_ _)); refine blk_put (cs := #[.int .i64 ((rd_T51 l0 x7_2).f0.f0), .int .i64 ((rd_T51 l0 x7_2).f0.f1), .int .i64 ((rd_T51 l0 x7_2).f1.f0), .int .i64 0]) ?_ 3 _ rfl; (with_reducible repeat (first | refine blk_drewN ?_ _ | refine blk_drew ?_ | refine blk_alloc ?_ _)); refine blk_put (cs := #[.int .i64 ((rd_T51 l0 x7_2).f0.f0), .int .i64 ((rd_T51 l0 x7_2).f0.f1), .int .i64 0, .int .i64 0]) ?_ 2 _ rfl; (with_reducible repeat (first | refine blk_drewN ?_ _ | refine blk_drew ?_ | refine blk_alloc ?_ _)); refine blk_put (cs := #[.int .i64 ((rd_T51 l0 x7_2).f0.f0), .int .i64 0, .int .i64 0, .int .i64 0]) ?_ 1 _ rfl; (with_reducible repeat (first | refine blk_drewN ?_ _ | refine blk_drew ?_ | refine blk_alloc ?_ _)); refine blk_put (cs := #[.int .i64 0, .int .i64 0, .int .i64 0, .int .i64 0]) ?_ 0 _ rfl; (with_reducible repeat (first | refine blk_drewN ?_ _ | refine blk_drew ?_ | refine blk_alloc ?_ _)); exact BK899.out) hg (Kd.R_away HO_6.out (fun _ hk => hk.2))); have n1_ := a_ (hb); have n2_ := a_ (ho); clear BK899; clear HB; clear HO_6; have BK899 := n0_; have HB := n1_; have HO907 := n2_; clear n0_ n1_ n2_; clear ho hb hg hat))
             go_roundg k2
             case measure => have := HJ4.out; have := HK2.out; omega
             case rel => exact ⟨(y905), (wrap64 (x7_2 + 1)), (by first | rfl | (simp; done) | (simp [*]; done)), H', ⟨by have := HJ4.out; have := HK2.out; omega⟩, ⟨rl_ (Kd.R_mono HO907.out (fun _ hk => trivial))⟩, ⟨bl_⟩⟩
            ·rw [if_neg c38] at H
             exact absurd H (by simp)
        ·rw [if_neg c11] at H
         exact absurd H (by simp)
       ·rw [if_neg c10] at H
        have c10b0 : decide (x7_2 < (l0.length : Int)) = false := decide_eq_false c10
        clear c10
        simp only [Option.some.injEq, Prod.mk.injEq] at H
        obtain ⟨rfl, rfl⟩ := H
        go_wp2
        go_ret2
        exact ⟨_, by first | rfl | (simp [errW_none, errW_some] <;> rfl) | (simp [*, errW_none, errW_some] <;> rfl), by (with_reducible repeat (first | apply Kd.R_alloc | apply Kd.R_drewN | apply Kd.R_drew)); exact HO_6.out, bl_⟩
 ·replace c4 := Bool.eq_false_iff.mpr c4
  subst c4
  have H1 : (some (([] : List (S51)), 40)) = some (r1, r2) := by rw [if_neg (show ¬ (false = true) by decide)] at H; exact H
  clear H
  have H := H1
  clear H1
  simp only [Option.some.injEq, Prod.mk.injEq] at H
  obtain ⟨rfl, rfl⟩ := H
  go_enter Tryd.func59, Tryd.ntmps59
  go_wp2_with (first | ((with_reducible refine gate_callee (f := 31) rfl ?_); refine goesL_ (some 10) rfl rfl Tryd.func31 (by kernel_rfl) rfl #[.slice A0 l0.length c0] rfl tm_ ?_; (with_reducible refine (waterhourref04_Valid.calls k _ _ l0 false _ ?side1 ?side2 A3.out).mono ?_); (case side1 => exact cl_ HR0.out); (case side2 => exact HC0.out); rintro e w42 ⟨rfl, hb⟩; refine ⟨_, rfl, ?_⟩; have n0_ := a_ (below_step bl_ hb); clear HB; have HB := n0_; clear n0_; (try clear hb); (try clear hb2); (try clear hk); (try clear hi)))
  go_ret2
  exact ⟨_, by first | rfl | (simp [errW_none, errW_some] <;> rfl) | (simp [*, errW_none, errW_some] <;> rfl), by first | exact Kd.R_nil _ _ _ _ _ | exact Kd.N_nil _ _ _ _ _ | exact Kd.V_nil _ _ _ _ _ | exact Kd.Q_nil _ _ _ _ _ | exact Kd.S_nil _ _ _ _ _, bl_⟩
end Go.Proofs.YtgiihjcpgjpkcaaDoor.Q
