/- Contracts of functions that RefillDays reaches: each Go function as a plain Lean function and the proof that its call answers just so. -/
import Derived.Test.YtgiihjcpgjpkcaaDoorKQ0
import Derived.Test.YtgiihjcpgjpkcaaDoorKQC
import Derived.Test.YtgiihjcpgjpkcaaDoorKQDc
namespace Go.Proofs.YtgiihjcpgjpkcaaDoor.Q
open Go.RowKit Go.Proofs.YtgiihjcpgjpkcaaDoorW.PrintWords Go.Proofs.YtgiihjcpgjpkcaaDoorW.PrintLast Go.Proofs.YtgiihjcpgjpkcaaDoorW.PrintMore
attribute [local go_sem] max2_int min2_int max_two min_two max_three min_three max_four min_four   -- for this text's walks alone
set_option linter.unusedVariables false
set_option linter.unusedSimpArgs false
def waterhourref04_Narrowed.j0 : Nat → List (S51) → Int → Bool → Int → Int → Option ((List (S51)) × Int)
 | 0, _, _, _, _, _ => none
 | k + 1, x0, x1, x20, x884000, x884001 => if x20 = true then (some (([] : List (S51)), 1)) else ((waterhourref04_copied.f x0).bind fun t887 => (if 0 ≤ x1 then (if x1 < (x0.length : Int) then ((waterhourref04_Known.f ((rd_T51 x0 x1).f1.f0) ((rd_T51 x0 x1).f1.f1)).bind fun t891 => (if t891 = true then (if (mx x884000 ((rd_T51 x0 x1).f1.f0)) > (mn x884001 ((rd_T51 x0 x1).f1.f1)) then (some (([] : List (S51)), 4)) else (if x1 < (t887.length : Int) then (some ((t887.set (x1 : Int).toNat (⟨(⟨(rd_T51 t887 x1).f0.f0, (rd_T51 t887 x1).f0.f1⟩ : S49), (⟨mx x884000 ((rd_T51 x0 x1).f1.f0), mn x884001 ((rd_T51 x0 x1).f1.f1)⟩ : S49)⟩ : S51)), 0)) else (none))) else (if x884000 > x884001 then (some (([] : List (S51)), 4)) else (if x1 < (t887.length : Int) then (some ((t887.set (x1 : Int).toNat (⟨(⟨(rd_T51 t887 x1).f0.f0, (rd_T51 t887 x1).f0.f1⟩ : S49), (⟨x884000, x884001⟩ : S49)⟩ : S51)), 0)) else (none))))) else (none)) else (none)))
def waterhourref04_Narrowed.f (k : Nat) (l0 : List (S51)) (a1 : Int) (a2_0 : Int) (a2_1 : Int) : Option ((List (S51)) × Int) := (waterhourref04_Valid.f k l0).bind fun t884 => (if t884 = true then ((waterhourref04_Event.f l0 a1 0).bind fun t885 => (if t885 = true then ((waterhourref04_minutes.f a2_0 a2_1 16777216).bind fun t886 => (waterhourref04_Narrowed.j0 k l0 a1 (!t886) a2_0 a2_1)) else (waterhourref04_Narrowed.j0 k l0 a1 true a2_0 a2_1))) else (some (([] : List (S51)), 40)))
theorem waterhourref04_Narrowed.mono_l : ∀ k, (∀ y0 y1 y2 y3 y4, LeO (waterhourref04_Narrowed.j0 k y0 y1 y2 y3 y4) (waterhourref04_Narrowed.j0 (k + 1) y0 y1 y2 y3 y4))
 | 0 => fun _ _ _ _ _ r h => by simp [waterhourref04_Narrowed.j0] at h
 | k + 1 => by
  have ih0 := waterhourref04_Narrowed.mono_l k
  ·intro y0 y1 y2 y3 y4
   unfold waterhourref04_Narrowed.j0
   repeat' first
   | (with_reducible exact ih0 _ _ _ _ _)
   | (with_reducible exact waterhourref04_Valid.mono _ _)
   | (with_reducible exact LeO.refl _)
   | (with_reducible exact LeO.none _)
   | (with_reducible refine LeO.ite ?_ ?_)
   | (with_reducible refine LeO.bind ?_ (fun _ => ?_))
   | exact ih0 _ _ _ _ _
   | exact waterhourref04_Valid.mono _ _
   | exact LeO.none _
   | refine LeO.ite ?_ ?_
   | refine LeO.bind ?_ (fun _ => ?_)
theorem waterhourref04_Narrowed.mono : ∀ a0 a1 a2 a3 k, LeO (waterhourref04_Narrowed.f k a0 a1 a2 a3) (waterhourref04_Narrowed.f (k + 1) a0 a1 a2 a3) := by
 intro a0 a1 a2 a3 k
 have ih0 := waterhourref04_Narrowed.mono_l k
 unfold waterhourref04_Narrowed.f
 repeat' first
   | (with_reducible exact ih0 _ _ _ _ _)
   | (with_reducible exact waterhourref04_Valid.mono _ _)
   | (with_reducible exact LeO.refl _)
   | (with_reducible exact LeO.none _)
   | (with_reducible refine LeO.ite ?_ ?_)
   | (with_reducible refine LeO.bind ?_ (fun _ => ?_))
   | exact ih0 _ _ _ _ _
   | exact waterhourref04_Valid.mono _ _
   | exact LeO.none _
   | refine LeO.ite ?_ ?_
   | refine LeO.bind ?_ (fun _ => ?_)
def waterhourref04_Narrowed.T7 : Bool × List (List Nat × List Nat) := (true, [([], []), ([0], [0]), ([], []), ([], []), ([2, 3], [2, 3]), ([4], [4]), ([5], [5]), ([6], [6]), ([1, 7], [1, 7]), ([], []), ([9], [9]), ([], []), ([], []), ([11, 12], [11, 12]), ([13], [13]), ([14], [14]), ([15], [15]), ([10, 16], [10, 16]), ([8, 17], [8, 17]), ([18, 0, 1, 2, 3, 4, 5, 6, 7, 8, 9, 10, 11, 12, 13, 14, 15, 16, 17, 18], [18])])
def waterhourref04_Narrowed.B7 : List Nat := [0, 1, 0, 0, 12, 28, 60, 124, 255, 0, 512, 0, 0, 6144, 14336, 30720, 63488, 130560, 262143, 524287]
theorem waterhourref04_Narrowed.tab7 : rtab .any (opsOf Tryd.f58 7) = waterhourref04_Narrowed.T7 := by kernel_rfl
theorem waterhourref04_Narrowed.bits7 : waitsOk waterhourref04_Narrowed.T7.2 waterhourref04_Narrowed.B7 = true := by kernel_rfl
set_option maxHeartbeats 8000000 in
set_option maxRecDepth 100000 in
theorem waterhourref04_Narrowed.calls (k : Nat) (A0 : Option Addr) (c0 : Nat) (l0 : List (S51)) (a1 : Int) (a2_0 : Int) (a2_1 : Int) (r1 : List (S51)) (r2 : Int) (w : World) (hr0 : Kd.C k51 w A0 l0.length l0) (hc0 : l0.length ≤ c0) (h : waterhourref04_Narrowed.f k l0 a1 a2_0 a2_1 = some (r1, r2)) :
  Calls Tryd.prog 58 #[.slice A0 l0.length c0, .int .i64 a1, .agg #[.int .i64 a2_0, .int .i64 a2_1]] w fun e w' => ∃ v0_ : Value, e = .returned (.tuple #[v0_, .int .i64 r2]) ∧ Kd.R k51 51 w' w.heap.size (fun _ => True) v0_ r1 ∧ Below w.heap.size w w' := by
 have hu49 := Tryd.underlying49
 have HR0 := a_ hr0
 have HC0 := a_ hc0
 clear hr0 hc0
 have HB := a_ (Below.refl w.heap.size w)
 have H : ((waterhourref04_Valid.f k l0).bind fun t884 => (if t884 = true then ((waterhourref04_Event.f l0 a1 0).bind fun t885 => (if t885 = true then ((waterhourref04_minutes.f a2_0 a2_1 16777216).bind fun t886 => (waterhourref04_Narrowed.j0 k l0 a1 (!t886) a2_0 a2_1)) else (waterhourref04_Narrowed.j0 k l0 a1 true a2_0 a2_1))) else (some (([] : List (S51)), 40)))) = some (r1, r2) := h
 clear h
 replace H := Option.bind_eq_some_iff.mp H
 obtain ⟨t884, A40, H⟩ := H
 replace H : (if t884 = true then ((waterhourref04_Event.f l0 a1 0).bind fun t885 => (if t885 = true then ((waterhourref04_minutes.f a2_0 a2_1 16777216).bind fun t886 => (waterhourref04_Narrowed.j0 k l0 a1 (!t886) a2_0 a2_1)) else (waterhourref04_Narrowed.j0 k l0 a1 true a2_0 a2_1))) else (some (([] : List (S51)), 40))) = some (r1, r2) := H
 have A4 := a_ A40
 clear A40
 by_cases c5 : t884 = true
 ·subst c5
  have H1 : ((waterhourref04_Event.f l0 a1 0).bind fun t885 => (if t885 = true then ((waterhourref04_minutes.f a2_0 a2_1 16777216).bind fun t886 => (waterhourref04_Narrowed.j0 k l0 a1 (!t886) a2_0 a2_1)) else (waterhourref04_Narrowed.j0 k l0 a1 true a2_0 a2_1))) = some (r1, r2) := by rw [if_pos rfl] at H; exact H
  clear H
  have H := H1
  clear H1
  have HC6 := a_ H
  clear H
  go_enter Tryd.func58, Tryd.ntmps58
  go_upto_region 3 with (first | ((with_reducible refine gate_dst (N := 5) rfl ?_); refine box_event ?hg (N := 5) ?hd (cs := #[.int .i64 a2_0, .int .i64 a2_1]) (t := 49) ?hr ?_; (case hd => rfl); (case hg => rfl); (case hr => first | (go_simp; done) | (go_simp; rfl)); intro gb883 hg w7 hbox hb; have n0_ := a_ (below_step bl_ hb); have n1_ := a_ (hbox); have n2_ := a_ ((bz_ (w := w) hg)); have n3_ := a_ ((bz_ (w := w) hg)); clear HB; have HB := n0_; have BK883 := n1_; have GW883 := n2_; have GE883 := n3_; clear n0_ n1_ n2_ n3_; clear hb hbox hg) | ((with_reducible refine gate_callee (f := 31) rfl ?_); refine goesL_ (some 10) rfl rfl Tryd.func31 (by kernel_rfl) rfl #[.slice A0 l0.length c0] rfl tm_ ?_; (with_reducible refine (waterhourref04_Valid.calls k _ _ l0 true _ ?side1 ?side2 A4.out).mono ?_); (case side1 => exact cl_ (Kd.C_below HR0.out HB.out)); (case side2 => exact HC0.out); rintro e w8 ⟨rfl, hb⟩; refine ⟨_, rfl, ?_⟩; have n0_ := a_ (bb_ BK883.out hb); have n1_ := a_ (below_step bl_ hb); clear BK883; clear HB; have BK883 := n0_; have HB := n1_; clear n0_ n1_; (try clear hb); (try clear hb2); (try clear hk); (try clear hi)))
  (try simp only [Act.put, List.setIfInBounds_toArray, List.set_cons_zero, List.set_cons_succ])
  go_cut [20] (fun v20 wc => ∃ (kq : Nat) (x20_5 : Bool), v20 = .bool x20_5 ∧ Aside0 (waterhourref04_Narrowed.j0 kq l0 a1 x20_5 a2_0 a2_1 = some (r1, r2)) ∧ Aside0 (kq ≤ k) ∧ Aside0 (wc.heap[gb883]? = some (.cells #[.int .i64 a2_0, .int .i64 a2_1] 49 (0, 0))) ∧ Aside0 (Below w.heap.size w wc))
  case first =>
   have H := HC6.out
   clear HC6
   replace H := Option.bind_eq_some_iff.mp H
   obtain ⟨t885, A90, H⟩ := H
   replace H : (if t885 = true then ((waterhourref04_minutes.f a2_0 a2_1 16777216).bind fun t886 => (waterhourref04_Narrowed.j0 k l0 a1 (!t886) a2_0 a2_1)) else (waterhourref04_Narrowed.j0 k l0 a1 true a2_0 a2_1)) = some (r1, r2) := H
   have A9 := a_ A90
   clear A90
   by_cases c10 : t885 = true
   ·subst c10
    have H1 : ((waterhourref04_minutes.f a2_0 a2_1 16777216).bind fun t886 => (waterhourref04_Narrowed.j0 k l0 a1 (!t886) a2_0 a2_1)) = some (r1, r2) := by rw [if_pos rfl] at H; exact H
    clear H
    have H := H1
    clear H1
    replace H := Option.bind_eq_some_iff.mp H
    obtain ⟨t886, A110, H⟩ := H
    replace H : (waterhourref04_Narrowed.j0 k l0 a1 (!t886) a2_0 a2_1) = some (r1, r2) := H
    have A11 := a_ A110
    clear A110
    have H' := a_ H
    clear H
    go_wp2_with (first | ((with_reducible refine gate_callee (f := 36) rfl ?_); refine goesL_ (some 14) rfl rfl Tryd.func36 (by kernel_rfl) rfl #[.slice A0 l0.length c0, .int .i64 a1, .int .i64 0] rfl tm_ ?_; (with_reducible refine (waterhourref04_Event.calls _ _ l0 a1 0 true _ ?side1 ?side2 A9.out).mono ?_); (case side1 => exact cl_ (Kd.C_below HR0.out HB.out)); (case side2 => exact HC0.out); rintro e w' ⟨rfl, ⟨nd, rfl⟩⟩; refine ⟨_, rfl, ?_⟩; have hcz12_0 : w8.cell? ⟨gb883, 0, none⟩ = some (.int .i64 a2_0) := (blk_cell BK883.out 0).trans rfl; have hcz12_1 : w8.cell? ⟨gb883, 1, none⟩ = some (.int .i64 a2_1) := (blk_cell BK883.out 1).trans rfl; have hfz12_0 := blk_frozen BK883.out 0; have hfz12_1 := blk_frozen BK883.out 1) | (go_at_call 80; (with_reducible refine (waterhourref04_minutes.calls a2_0 a2_1 16777216 t886 _ A11.out).mono ?_); rintro e w13 ⟨rfl, hb⟩; have n0_ := a_ (bb_ BK883.out hb); have n1_ := a_ (below_step bl_ hb); clear BK883; clear HB; have BK883 := n0_; have HB := n1_; clear n0_ n1_; (try clear hb); (try clear hb2); (try clear hk); (try clear hi)))
    go_meet
    case rel => exact ⟨_, (!t886), (by first | rfl | (simp; done) | (simp [*]; done)), H', ⟨by first | omega | exact Nat.le_refl _⟩, ⟨bk_ BK883.out⟩, ⟨bl_⟩⟩
   ·replace c10 := Bool.eq_false_iff.mpr c10
    subst c10
    have H1 : (waterhourref04_Narrowed.j0 k l0 a1 true a2_0 a2_1) = some (r1, r2) := by rw [if_neg (show ¬ (false = true) by decide)] at H; exact H
    clear H
    have H := H1
    clear H1
    have H' := a_ H
    clear H
    go_wp2_with (first | ((with_reducible refine gate_callee (f := 36) rfl ?_); refine goesL_ (some 14) rfl rfl Tryd.func36 (by kernel_rfl) rfl #[.slice A0 l0.length c0, .int .i64 a1, .int .i64 0] rfl tm_ ?_; (with_reducible refine (waterhourref04_Event.calls _ _ l0 a1 0 false _ ?side1 ?side2 A9.out).mono ?_); (case side1 => exact cl_ (Kd.C_below HR0.out HB.out)); (case side2 => exact HC0.out); rintro e w' ⟨rfl, ⟨nd, rfl⟩⟩; refine ⟨_, rfl, ?_⟩))
    go_meet
    case rel => exact ⟨_, (true), (by first | rfl | (simp; done) | (simp [*]; done)), H', ⟨by first | omega | exact Nat.le_refl _⟩, ⟨bk_ BK883.out⟩, ⟨bl_⟩⟩
  case rest =>
   clear HC6
   try clear c1
   try clear p2
   try clear c3
   try clear c5
   try clear c10
   try clear hcz12_0
   try clear hcz12_1
   try clear hfz12_0
   try clear hfz12_1
   obtain ⟨kq, x20_5, rfl, HA, HJ5, BK883, HB⟩ := hcut
   cases kq with
   | zero => exact absurd HA.out (by simp [waterhourref04_Narrowed.j0])
   | succ kj5 =>
    have H := HA.out
    clear HA
    simp only [waterhourref04_Narrowed.j0] at H
    by_cases c14 : x20_5 = true
    ·subst c14
     have H1 : (some (([] : List (S51)), 1)) = some (r1, r2) := by rw [if_pos rfl] at H; exact H
     clear H
     have H := H1
     clear H1
     simp only [Option.some.injEq, Prod.mk.injEq] at H
     obtain ⟨rfl, rfl⟩ := H
     go_wp2
     go_ret2
     exact ⟨_, by first | rfl | (simp [errW_none, errW_some] <;> rfl) | (simp [*, errW_none, errW_some] <;> rfl), by first | exact Kd.R_nil _ _ _ _ _ | exact Kd.N_nil _ _ _ _ _ | exact Kd.V_nil _ _ _ _ _ | exact Kd.Q_nil _ _ _ _ _ | exact Kd.S_nil _ _ _ _ _, bl_⟩
    ·replace c14 := Bool.eq_false_iff.mpr c14
     subst c14
     have H1 : ((waterhourref04_copied.f l0).bind fun t887 => (if 0 ≤ a1 then (if a1 < (l0.length : Int) then ((waterhourref04_Known.f ((rd_T51 l0 a1).f1.f0) ((rd_T51 l0 a1).f1.f1)).bind fun t891 => (if t891 = true then (if (mx a2_0 ((rd_T51 l0 a1).f1.f0)) > (mn a2_1 ((rd_T51 l0 a1).f1.f1)) then (some (([] : List (S51)), 4)) else (if a1 < (t887.length : Int) then (some ((t887.set (a1 : Int).toNat (⟨(⟨(rd_T51 t887 a1).f0.f0, (rd_T51 t887 a1).f0.f1⟩ : S49), (⟨mx a2_0 ((rd_T51 l0 a1).f1.f0), mn a2_1 ((rd_T51 l0 a1).f1.f1)⟩ : S49)⟩ : S51)), 0)) else (none))) else (if a2_0 > a2_1 then (some (([] : List (S51)), 4)) else (if a1 < (t887.length : Int) then (some ((t887.set (a1 : Int).toNat (⟨(⟨(rd_T51 t887 a1).f0.f0, (rd_T51 t887 a1).f0.f1⟩ : S49), (⟨a2_0, a2_1⟩ : S49)⟩ : S51)), 0)) else (none))))) else (none)) else (none))) = some (r1, r2) := by rw [if_neg (show ¬ (false = true) by decide)] at H; exact H
     clear H
     have H := H1
     clear H1
     replace H := Option.bind_eq_some_iff.mp H
     obtain ⟨t887, A150, H⟩ := H
     replace H : (if 0 ≤ a1 then (if a1 < (l0.length : Int) then ((waterhourref04_Known.f ((rd_T51 l0 a1).f1.f0) ((rd_T51 l0 a1).f1.f1)).bind fun t891 => (if t891 = true then (if (mx a2_0 ((rd_T51 l0 a1).f1.f0)) > (mn a2_1 ((rd_T51 l0 a1).f1.f1)) then (some (([] : List (S51)), 4)) else (if a1 < (t887.length : Int) then (some ((t887.set (a1 : Int).toNat (⟨(⟨(rd_T51 t887 a1).f0.f0, (rd_T51 t887 a1).f0.f1⟩ : S49), (⟨mx a2_0 ((rd_T51 l0 a1).f1.f0), mn a2_1 ((rd_T51 l0 a1).f1.f1)⟩ : S49)⟩ : S51)), 0)) else (none))) else (if a2_0 > a2_1 then (some (([] : List (S51)), 4)) else (if a1 < (t887.length : Int) then (some ((t887.set (a1 : Int).toNat (⟨(⟨(rd_T51 t887 a1).f0.f0, (rd_T51 t887 a1).f0.f1⟩ : S49), (⟨a2_0, a2_1⟩ : S49)⟩ : S51)), 0)) else (none))))) else (none)) else (none)) = some (r1, r2) := H
     have A15 := a_ A150
     clear A150
     by_cases c16 : 0 ≤ a1
     ·rw [if_pos c16] at H
      have c16b0 : decide (0 ≤ a1) = true := decide_eq_true c16
      clear c16
      by_cases c17 : a1 < (l0.length : Int)
      ·rw [if_pos c17] at H
       have c17b0 : decide (a1 < (l0.length : Int)) = true := decide_eq_true c17
       clear c17
       replace H := Option.bind_eq_some_iff.mp H
       obtain ⟨t891, A180, H⟩ := H
       replace H : (if t891 = true then (if (mx a2_0 ((rd_T51 l0 a1).f1.f0)) > (mn a2_1 ((rd_T51 l0 a1).f1.f1)) then (some (([] : List (S51)), 4)) else (if a1 < (t887.length : Int) then (some ((t887.set (a1 : Int).toNat (⟨(⟨(rd_T51 t887 a1).f0.f0, (rd_T51 t887 a1).f0.f1⟩ : S49), (⟨mx a2_0 ((rd_T51 l0 a1).f1.f0), mn a2_1 ((rd_T51 l0 a1).f1.f1)⟩ : S49)⟩ : S51)), 0)) else (none))) else (if a2_0 > a2_1 then (some (([] : List (S51)), 4)) else (if a1 < (t887.length : Int) then (some ((t887.set (a1 : Int).toNat (⟨(⟨(rd_T51 t887 a1).f0.f0, (rd_T51 t887 a1).f0.f1⟩ : S49), (⟨a2_0, a2_1⟩ : S49)⟩ : S51)), 0)) else (none)))) = some (r1, r2) := H
       have A18 := a_ A180
       clear A180
       by_cases c19 : t891 = true
       ·subst c19
        have H1 : (if (mx a2_0 ((rd_T51 l0 a1).f1.f0)) > (mn a2_1 ((rd_T51 l0 a1).f1.f1)) then (some (([] : List (S51)), 4)) else (if a1 < (t887.length : Int) then (some ((t887.set (a1 : Int).toNat (⟨(⟨(rd_T51 t887 a1).f0.f0, (rd_T51 t887 a1).f0.f1⟩ : S49), (⟨mx a2_0 ((rd_T51 l0 a1).f1.f0), mn a2_1 ((rd_T51 l0 a1).f1.f1)⟩ : S49)⟩ : S51)), 0)) else (none))) = some (r1, r2) := by rw [if_pos rfl] at H; exact H
        clear H
        have H := H1
        clear H1
        obtain ⟨ji20, hji20⟩ : ∃ j_ : Int, (mx a2_0 ((rd_T51 l0 a1).f1.f0)) = j_ := ⟨_, rfl⟩
        replace H : (if (ji20) > (mn a2_1 ((rd_T51 l0 a1).f1.f1)) then (some (([] : List (S51)), 4)) else (if a1 < (t887.length : Int) then (some ((t887.set (a1 : Int).toNat (⟨(⟨(rd_T51 t887 a1).f0.f0, (rd_T51 t887 a1).f0.f1⟩ : S49), (⟨ji20, mn a2_1 ((rd_T51 l0 a1).f1.f1)⟩ : S49)⟩ : S51)), 0)) else (none))) = some (r1, r2) := by first | (rw [hji20] at H; exact H) | (simp only [hji20] at H ⊢; exact H)
        (try rw [hji20] at A15)
        (try rw [hji20] at A18)
        have hji20_ : (if a2_0 < ((rd_T51 l0 a1).f1.f0) then ((rd_T51 l0 a1).f1.f0) else a2_0) = ji20 := hji20
        obtain ⟨ji21, hji21⟩ : ∃ j_ : Int, (mn a2_1 ((rd_T51 l0 a1).f1.f1)) = j_ := ⟨_, rfl⟩
        replace H : (if (ji20) > (ji21) then (some (([] : List (S51)), 4)) else (if a1 < (t887.length : Int) then (some ((t887.set (a1 : Int).toNat (⟨(⟨(rd_T51 t887 a1).f0.f0, (rd_T51 t887 a1).f0.f1⟩ : S49), (⟨ji20, ji21⟩ : S49)⟩ : S51)), 0)) else (none))) = some (r1, r2) := by first | (rw [hji21] at H; exact H) | (simp only [hji21] at H ⊢; exact H)
        (try rw [hji21] at A15)
        (try rw [hji21] at A18)
        have hji21_ : (if ((rd_T51 l0 a1).f1.f1) < a2_1 then ((rd_T51 l0 a1).f1.f1) else a2_1) = ji21 := hji21
        by_cases c22 : (ji20) > (ji21)
        ·rw [if_pos c22] at H
         have c22b0 : decide ((ji21) < (ji20)) = true := decide_eq_true c22
         clear c22
         simp only [Option.some.injEq, Prod.mk.injEq] at H
         obtain ⟨rfl, rfl⟩ := H
         try go_wp2_with (first | ((with_reducible refine gate_callee (f := 67) rfl ?_); refine goesL_ (some 22) rfl rfl Tryd.func67 (by kernel_rfl) rfl #[.slice A0 l0.length c0] rfl tm_ ?_; (with_reducible refine (waterhourref04_copied.calls _ _ l0 t887 _ ?side1 ?side2 A15.out).mono ?_); (case side1 => exact cl_ (Kd.C_below HR0.out HB.out)); (case side2 => exact HC0.out); rintro e w23 ⟨v888, rfl, ho0, hb⟩; refine ⟨_, rfl, ?_⟩; have n0_ := a_ (Kd.R_lower ho0 (below_size bl_)); have n1_ := a_ (bb_ BK883.out hb); have n2_ := a_ (below_step bl_ hb); clear BK883; clear HB; have HO889 := n0_; have BK883 := n1_; have HB := n2_; clear n0_ n1_ n2_; (try clear hb); (try clear hb2); (try clear hk); (try clear hi); (try clear ho0); have p890 : 0 ≤ (a1 : Int) := of_decide_eq_true (by first | (with_reducible assumption) | assumption); have q890 : a1 < (l0.length : Int) := of_decide_eq_true (by first | (with_reducible assumption) | assumption); obtain ⟨ad890, e890, hx890_0, hx890_1, hx890_2, hx890_3⟩ := at_T51 HR0.out a1 p890 q890; cases e890; replace hx890_0 := (HB.out.cell (World.block_lt_of_cell? w _ hx890_0)).trans hx890_0; replace hx890_1 := (HB.out.cell (World.block_lt_of_cell? w _ hx890_1)).trans hx890_1; replace hx890_2 := (HB.out.cell (World.block_lt_of_cell? w _ hx890_2)).trans hx890_2; replace hx890_3 := (HB.out.cell (World.block_lt_of_cell? w _ hx890_3)).trans hx890_3; replace p890 := eq_true p890; replace q890 := eq_true q890) | ((with_reducible refine gate_callee (f := 38) rfl ?_); refine goesL_ (some 28) rfl rfl Tryd.func38 (by kernel_rfl) rfl #[.agg #[.int .i64 ((rd_T51 l0 a1).f1.f0), .int .i64 ((rd_T51 l0 a1).f1.f1)]] rfl tm_ ?_; (with_reducible refine (waterhourref04_Known.calls ((rd_T51 l0 a1).f1.f0) ((rd_T51 l0 a1).f1.f1) true _ A18.out).mono ?_); rintro e w24 ⟨rfl, hb⟩; refine ⟨_, rfl, ?_⟩; have n0_ := a_ (Kd.R_below (rl_ HO889.out) hb); have n1_ := a_ (bb_ BK883.out hb); have n2_ := a_ (below_step bl_ hb); clear HO889; clear BK883; clear HB; have HO889 := n0_; have BK883 := n1_; have HB := n2_; clear n0_ n1_ n2_; (try clear hb); (try clear hb2); (try clear hk); (try clear hi)))
         have n0_ := a_ (Kd.R_drew HO889.out)
         have n1_ := a_ (blk_drew BK883.out)
         have n2_ := a_ (below_drew1 HB.out)
         clear HO889
         clear BK883
         clear HB
         have HO889 := n0_
         have BK883 := n1_
         have HB := n2_
         clear n0_ n1_ n2_
         have p892 : 0 ≤ (a1 : Int) := of_decide_eq_true (by first | (with_reducible assumption) | assumption)
         have q892 : a1 < (l0.length : Int) := of_decide_eq_true (by first | (with_reducible assumption) | assumption)
         obtain ⟨ad892, e892, hx892_0, hx892_1, hx892_2, hx892_3⟩ := at_T51 HR0.out a1 p892 q892
         have hw892_3 := hx892_3
         have hw892_2 := hx892_2
         have hw892_1 := hx892_1
         have hw892_0 := hx892_0
         obtain rfl : ad890 = ad892 := (by injection e892)
         replace hx892_0 := (HB.out.cell (World.block_lt_of_cell? w _ hx892_0)).trans hx892_0
         replace hx892_1 := (HB.out.cell (World.block_lt_of_cell? w _ hx892_1)).trans hx892_1
         replace hx892_2 := (HB.out.cell (World.block_lt_of_cell? w _ hx892_2)).trans hx892_2
         replace hx892_3 := (HB.out.cell (World.block_lt_of_cell? w _ hx892_3)).trans hx892_3
         replace p892 := eq_true p892
         replace q892 := eq_true q892
         have p893 : 0 ≤ (a1 : Int) := of_decide_eq_true (by first | (with_reducible assumption) | assumption)
         have q893 : a1 < (l0.length : Int) := of_decide_eq_true (by first | (with_reducible assumption) | assumption)
         obtain ⟨ad893, e893, hx893_0, hx893_1, hx893_2, hx893_3⟩ := at_T51 HR0.out a1 p893 q893
         have hw893_3 := hx893_3
         have hw893_2 := hx893_2
         have hw893_1 := hx893_1
         have hw893_0 := hx893_0
         obtain rfl : ad890 = ad893 := (by injection e893)
         replace hx893_0 := (HB.out.cell (World.block_lt_of_cell? w _ hx893_0)).trans hx893_0
         replace hx893_1 := (HB.out.cell (World.block_lt_of_cell? w _ hx893_1)).trans hx893_1
         replace hx893_2 := (HB.out.cell (World.block_lt_of_cell? w _ hx893_2)).trans hx893_2
         replace hx893_3 := (HB.out.cell (World.block_lt_of_cell? w _ hx893_3)).trans hx893_3
         replace p893 := eq_true p893
         replace q893 := eq_true q893
         refine start_ (n := 20) (S := fun w' => w'.cell? ⟨gb883, 0, none⟩ = some (.int .i64 a2_0) ∧ w'.cell? ⟨gb883, 1, none⟩ = some (.int .i64 a2_1) ∧ w'.cell? (ad890.add ((a1).toNat * 4)) = some (.int .i64 ((rd_T51 l0 a1).f0.f0)) ∧ w'.cell? ⟨(ad890.add ((a1).toNat * 4)).block, (ad890.add ((a1).toNat * 4)).off + 1, none⟩ = some (.int .i64 ((rd_T51 l0 a1).f0.f1)) ∧ w'.cell? ⟨(ad890.add ((a1).toNat * 4)).block, (ad890.add ((a1).toNat * 4)).off + 2, none⟩ = some (.int .i64 ((rd_T51 l0 a1).f1.f0)) ∧ w'.cell? ⟨(ad890.add ((a1).toNat * 4)).block, (ad890.add ((a1).toNat * 4)).off + 3, none⟩ = some (.int .i64 ((rd_T51 l0 a1).f1.f1)) ∧ w'.cell? (ad890.add ((a1).toNat * 4)) = some (.int .i64 ((rd_T51 l0 a1).f0.f0)) ∧ w'.cell? ⟨(ad890.add ((a1).toNat * 4)).block, (ad890.add ((a1).toNat * 4)).off + 1, none⟩ = some (.int .i64 ((rd_T51 l0 a1).f0.f1)) ∧ w'.cell? ⟨(ad890.add ((a1).toNat * 4)).block, (ad890.add ((a1).toNat * 4)).off + 2, none⟩ = some (.int .i64 ((rd_T51 l0 a1).f1.f0)) ∧ w'.cell? ⟨(ad890.add ((a1).toNat * 4)).block, (ad890.add ((a1).toNat * 4)).off + 3, none⟩ = some (.int .i64 ((rd_T51 l0 a1).f1.f1))) (ds := [19]) #[false, false, false, false, false, false, false, false, false, false, false, false, false, false, false, false, false, false, false, false] (by kernel_rfl) rfl rfl ⟨(blk_cell BK883.out 0).trans rfl, (blk_cell BK883.out 1).trans rfl, ((HB.out.cell (World.block_lt_of_cell? w _ hw892_0)).trans hw892_0), ((HB.out.cell (World.block_lt_of_cell? w _ hw892_1)).trans hw892_1), ((HB.out.cell (World.block_lt_of_cell? w _ hw892_2)).trans hw892_2), ((HB.out.cell (World.block_lt_of_cell? w _ hw892_3)).trans hw892_3), ((HB.out.cell (World.block_lt_of_cell? w _ hw893_0)).trans hw893_0), ((HB.out.cell (World.block_lt_of_cell? w _ hw893_1)).trans hw893_1), ((HB.out.cell (World.block_lt_of_cell? w _ hw893_2)).trans hw893_2), ((HB.out.cell (World.block_lt_of_cell? w _ hw893_3)).trans hw893_3)⟩ (fun hHeld => ?_); refine with_tabW waterhourref04_Narrowed.tab7 waterhourref04_Narrowed.bits7 (fun HT_ HW_ => ?_)
         generalize w24.drew = w25 at HO889 BK883 HB hx892_0 hx892_1 hx892_2 hx892_3 hx893_0 hx893_1 hx893_2 hx893_3 hHeld ⊢
         refine pz_ 0 29 HT_ ?_
         refine pz_ 2 31 HT_ ?_
         refine pz_ 3 32 HT_ ?_
         refine pz_ 4 33 HT_ ?_
         refine pz_ 5 34 HT_ ?_
         refine pz_ 6 35 HT_ ?_
         refine pz_ 9 38 HT_ ?_
         refine pz_ 11 40 HT_ ?_
         refine pz_ 12 41 HT_ ?_
         refine pz_ 13 42 HT_ ?_
         refine pz_ 14 43 HT_ ?_
         refine pz_ 15 44 HT_ ?_
         refine take_ (i := 1) (N := some 30) (v := ?_) (a' := ?_) #[true, true, true, true, true, true, true, false, false, true, false, true, true, true, true, true, false, false, false, false] rfl rfl (take_ofW HT_.out HW_.out (by kernel_rfl)) (fun _ _ _ h => h) (Or.inl ⟨by rfl, ?_⟩) hHeld ?_ ?_
         rotate_left
         ·rintro w' ⟨s0, s1, s2, s3, s4, s5, s6, s7, s8, s9⟩
          go_simp
          with_reducible rfl
         rotate_left
         ·simp only [Act.put, List.setIfInBounds_toArray, List.set_cons_zero, List.set_cons_succ, i64_w, i32_w]
          rfl
         refine take_ (i := 7) (N := some 36) (v := ?_) (a' := ?_) #[true, true, true, true, true, true, true, true, false, true, false, true, true, true, true, true, false, false, false, false] rfl rfl (take_ofW HT_.out HW_.out (by kernel_rfl)) (fun _ _ _ h => h) (Or.inl ⟨by rfl, ?_⟩) hHeld ?_ ?_
         rotate_left
         ·rintro w' ⟨s0, s1, s2, s3, s4, s5, s6, s7, s8, s9⟩
          go_simp
          with_reducible rfl
         rotate_left
         ·simp only [Act.put, List.setIfInBounds_toArray, List.set_cons_zero, List.set_cons_succ, i64_w, i32_w]
          rfl
         refine pz_ 8 37 HT_ ?_
         refine take_ (i := 10) (N := some 39) (v := ?_) (a' := ?_) #[true, true, true, true, true, true, true, true, true, true, true, true, true, true, true, true, false, false, false, false] rfl rfl (take_ofW HT_.out HW_.out (by kernel_rfl)) (fun _ _ _ h => h) (Or.inl ⟨by rfl, ?_⟩) hHeld ?_ ?_
         rotate_left
         ·rintro w' ⟨s0, s1, s2, s3, s4, s5, s6, s7, s8, s9⟩
          go_simp
          with_reducible rfl
         rotate_left
         ·simp only [Act.put, List.setIfInBounds_toArray, List.set_cons_zero, List.set_cons_succ, i64_w, i32_w]
          rfl
         refine take_ (i := 16) (N := some 45) (v := ?_) (a' := ?_) #[true, true, true, true, true, true, true, true, true, true, true, true, true, true, true, true, true, false, false, false] rfl rfl (take_ofW HT_.out HW_.out (by kernel_rfl)) (fun _ _ _ h => h) (Or.inl ⟨by rfl, ?_⟩) hHeld ?_ ?_
         rotate_left
         ·rintro w' ⟨s0, s1, s2, s3, s4, s5, s6, s7, s8, s9⟩
          go_simp
          with_reducible rfl
         rotate_left
         ·simp only [Act.put, List.setIfInBounds_toArray, List.set_cons_zero, List.set_cons_succ, i64_w, i32_w]
          rfl
         refine pz_ 17 46 HT_ ?_
         refine pz_ 18 47 HT_ ?_
         refine last_ (i := 19) (N := none) #[true, true, true, true, true, true, true, true, true, true, true, true, true, true, true, true, true, true, true, true] rfl rfl (one_of HT_.out (by kernel_rfl)) (by decide) (fun K hK => ?_)
         have hs26 : w25.cell? ⟨gb883, 0, none⟩ = some (.int .i64 a2_0) := (blk_cell BK883.out 0).trans rfl
         have hfs26 := blk_frozen BK883.out 0
         have hs27 : w25.cell? ⟨gb883, 1, none⟩ = some (.int .i64 a2_1) := (blk_cell BK883.out 1).trans rfl
         have hfs27 := blk_frozen BK883.out 1
         refine skip_ (w1 := ?_) (by rfl) rfl ?_ ?_
         rotate_left
         ·go_simp
          rfl
         refine hK.out _ _ ?_
         clear hK K
         refine done_ (done_of HT_.out (by kernel_rfl)) ?_
         have hcz28_0 : w25.cell? ⟨gb883, 0, none⟩ = some (.int .i64 a2_0) := (blk_cell BK883.out 0).trans rfl
         have hcz28_1 : w25.cell? ⟨gb883, 1, none⟩ = some (.int .i64 a2_1) := (blk_cell BK883.out 1).trans rfl
         have hfz28_0 := blk_frozen BK883.out 0
         have hfz28_1 := blk_frozen BK883.out 1
         try go_wp2
         go_ret2
         exact ⟨_, by first | rfl | (simp [errW_none, errW_some] <;> rfl) | (simp only [← hji20, ← hji21]; first | rfl | (simp [errW_none, errW_some] <;> rfl)) | (simp [*, errW_none, errW_some] <;> rfl), by first | exact Kd.R_nil _ _ _ _ _ | exact Kd.N_nil _ _ _ _ _ | exact Kd.V_nil _ _ _ _ _ | exact Kd.Q_nil _ _ _ _ _ | exact Kd.S_nil _ _ _ _ _, bl_⟩
        ·rw [if_neg c22] at H
         have c22b0 : decide ((ji21) < (ji20)) = false := decide_eq_false c22
         clear c22
         by_cases c29 : a1 < (t887.length : Int)
         ·rw [if_pos c29] at H
          have c29b0 : decide (a1 < (t887.length : Int)) = true := decide_eq_true c29
          clear c29
          obtain ⟨y894, hy894⟩ : ∃ y_ : List (S51), y_ = (t887.set (a1 : Int).toNat (⟨(⟨(rd_T51 t887 a1).f0.f0, (rd_T51 t887 a1).f0.f1⟩ : S49), (⟨ji20, ji21⟩ : S49)⟩ : S51)) := ⟨_, rfl⟩
          replace H : (some (y894, 0)) = some (r1, r2) := by first | (rw [hy894]; with_reducible exact H) | (have H2_ := (Option.bind_some _ _).symm.trans H; rw [hy894]; with_reducible exact H2_) | (have H2_ := (Option.bind_some _ _).symm.trans H; with_reducible exact H2_) | with_reducible exact H | (rw [hy894]; exact H) | exact H
          have Ny894 := a_ hy894
          clear hy894
          simp only [Option.some.injEq, Prod.mk.injEq] at H
          obtain ⟨rfl, rfl⟩ := H
          try go_wp2_with (first | ((with_reducible refine gate_callee (f := 67) rfl ?_); refine goesL_ (some 22) rfl rfl Tryd.func67 (by kernel_rfl) rfl #[.slice A0 l0.length c0] rfl tm_ ?_; (with_reducible refine (waterhourref04_copied.calls _ _ l0 t887 _ ?side1 ?side2 A15.out).mono ?_); (case side1 => exact cl_ (Kd.C_below HR0.out HB.out)); (case side2 => exact HC0.out); rintro e w31 ⟨v888, rfl, ho0, hb⟩; refine ⟨_, rfl, ?_⟩; have n0_ := a_ (Kd.R_lower ho0 (below_size bl_)); have n1_ := a_ (bb_ BK883.out hb); have n2_ := a_ (below_step bl_ hb); clear BK883; clear HB; have HO889 := n0_; have BK883 := n1_; have HB := n2_; clear n0_ n1_ n2_; (try clear hb); (try clear hb2); (try clear hk); (try clear hi); (try clear ho0); have p890 : 0 ≤ (a1 : Int) := of_decide_eq_true (by first | (with_reducible assumption) | assumption); have q890 : a1 < (l0.length : Int) := of_decide_eq_true (by first | (with_reducible assumption) | assumption); obtain ⟨ad890, e890, hx890_0, hx890_1, hx890_2, hx890_3⟩ := at_T51 HR0.out a1 p890 q890; cases e890; replace hx890_0 := (HB.out.cell (World.block_lt_of_cell? w _ hx890_0)).trans hx890_0; replace hx890_1 := (HB.out.cell (World.block_lt_of_cell? w _ hx890_1)).trans hx890_1; replace hx890_2 := (HB.out.cell (World.block_lt_of_cell? w _ hx890_2)).trans hx890_2; replace hx890_3 := (HB.out.cell (World.block_lt_of_cell? w _ hx890_3)).trans hx890_3; replace p890 := eq_true p890; replace q890 := eq_true q890) | ((with_reducible refine gate_callee (f := 38) rfl ?_); refine goesL_ (some 28) rfl rfl Tryd.func38 (by kernel_rfl) rfl #[.agg #[.int .i64 ((rd_T51 l0 a1).f1.f0), .int .i64 ((rd_T51 l0 a1).f1.f1)]] rfl tm_ ?_; (with_reducible refine (waterhourref04_Known.calls ((rd_T51 l0 a1).f1.f0) ((rd_T51 l0 a1).f1.f1) true _ A18.out).mono ?_); rintro e w32 ⟨rfl, hb⟩; refine ⟨_, rfl, ?_⟩; have n0_ := a_ (Kd.R_below (rl_ HO889.out) hb); have n1_ := a_ (bb_ BK883.out hb); have n2_ := a_ (below_step bl_ hb); clear HO889; clear BK883; clear HB; have HO889 := n0_; have BK883 := n1_; have HB := n2_; clear n0_ n1_ n2_; (try clear hb); (try clear hb2); (try clear hk); (try clear hi)))
          have n0_ := a_ (Kd.R_drew HO889.out)
          have n1_ := a_ (blk_drew BK883.out)
          have n2_ := a_ (below_drew1 HB.out)
          clear HO889
          clear BK883
          clear HB
          have HO889 := n0_
          have BK883 := n1_
          have HB := n2_
          clear n0_ n1_ n2_
          have p892 : 0 ≤ (a1 : Int) := of_decide_eq_true (by first | (with_reducible assumption) | assumption)
          have q892 : a1 < (l0.length : Int) := of_decide_eq_true (by first | (with_reducible assumption) | assumption)
          obtain ⟨ad892, e892, hx892_0, hx892_1, hx892_2, hx892_3⟩ := at_T51 HR0.out a1 p892 q892
          have hw892_3 := hx892_3
          have hw892_2 := hx892_2
          have hw892_1 := hx892_1
          have hw892_0 := hx892_0
          obtain rfl : ad890 = ad892 := (by injection e892)
          replace hx892_0 := (HB.out.cell (World.block_lt_of_cell? w _ hx892_0)).trans hx892_0
          replace hx892_1 := (HB.out.cell (World.block_lt_of_cell? w _ hx892_1)).trans hx892_1
          replace hx892_2 := (HB.out.cell (World.block_lt_of_cell? w _ hx892_2)).trans hx892_2
          replace hx892_3 := (HB.out.cell (World.block_lt_of_cell? w _ hx892_3)).trans hx892_3
          replace p892 := eq_true p892
          replace q892 := eq_true q892
          have p893 : 0 ≤ (a1 : Int) := of_decide_eq_true (by first | (with_reducible assumption) | assumption)
          have q893 : a1 < (l0.length : Int) := of_decide_eq_true (by first | (with_reducible assumption) | assumption)
          obtain ⟨ad893, e893, hx893_0, hx893_1, hx893_2, hx893_3⟩ := at_T51 HR0.out a1 p893 q893
          have hw893_3 := hx893_3
          have hw893_2 := hx893_2
          have hw893_1 := hx893_1
          have hw893_0 := hx893_0
          obtain rfl : ad890 = ad893 := (by injection e893)
          replace hx893_0 := (HB.out.cell (World.block_lt_of_cell? w _ hx893_0)).trans hx893_0
          replace hx893_1 := (HB.out.cell (World.block_lt_of_cell? w _ hx893_1)).trans hx893_1
          replace hx893_2 := (HB.out.cell (World.block_lt_of_cell? w _ hx893_2)).trans hx893_2
          replace hx893_3 := (HB.out.cell (World.block_lt_of_cell? w _ hx893_3)).trans hx893_3
          replace p893 := eq_true p893
          replace q893 := eq_true q893
          refine start_ (n := 20) (S := fun w' => w'.cell? ⟨gb883, 0, none⟩ = some (.int .i64 a2_0) ∧ w'.cell? ⟨gb883, 1, none⟩ = some (.int .i64 a2_1) ∧ w'.cell? (ad890.add ((a1).toNat * 4)) = some (.int .i64 ((rd_T51 l0 a1).f0.f0)) ∧ w'.cell? ⟨(ad890.add ((a1).toNat * 4)).block, (ad890.add ((a1).toNat * 4)).off + 1, none⟩ = some (.int .i64 ((rd_T51 l0 a1).f0.f1)) ∧ w'.cell? ⟨(ad890.add ((a1).toNat * 4)).block, (ad890.add ((a1).toNat * 4)).off + 2, none⟩ = some (.int .i64 ((rd_T51 l0 a1).f1.f0)) ∧ w'.cell? ⟨(ad890.add ((a1).toNat * 4)).block, (ad890.add ((a1).toNat * 4)).off + 3, none⟩ = some (.int .i64 ((rd_T51 l0 a1).f1.f1)) ∧ w'.cell? (ad890.add ((a1).toNat * 4)) = some (.int .i64 ((rd_T51 l0 a1).f0.f0)) ∧ w'.cell? ⟨(ad890.add ((a1).toNat * 4)).block, (ad890.add ((a1).toNat * 4)).off + 1, none⟩ = some (.int .i64 ((rd_T51 l0 a1).f0.f1)) ∧ w'.cell? ⟨(ad890.add ((a1).toNat * 4)).block, (ad890.add ((a1).toNat * 4)).off + 2, none⟩ = some (.int .i64 ((rd_T51 l0 a1).f1.f0)) ∧ w'.cell? ⟨(ad890.add ((a1).toNat * 4)).block, (ad890.add ((a1).toNat * 4)).off + 3, none⟩ = some (.int .i64 ((rd_T51 l0 a1).f1.f1))) (ds := [19]) #[false, false, false, false, false, false, false, false, false, false, false, false, false, false, false, false, false, false, false, false] (by kernel_rfl) rfl rfl ⟨(blk_cell BK883.out 0).trans rfl, (blk_cell BK883.out 1).trans rfl, ((HB.out.cell (World.block_lt_of_cell? w _ hw892_0)).trans hw892_0), ((HB.out.cell (World.block_lt_of_cell? w _ hw892_1)).trans hw892_1), ((HB.out.cell (World.block_lt_of_cell? w _ hw892_2)).trans hw892_2), ((HB.out.cell (World.block_lt_of_cell? w _ hw892_3)).trans hw892_3), ((HB.out.cell (World.block_lt_of_cell? w _ hw893_0)).trans hw893_0), ((HB.out.cell (World.block_lt_of_cell? w _ hw893_1)).trans hw893_1), ((HB.out.cell (World.block_lt_of_cell? w _ hw893_2)).trans hw893_2), ((HB.out.cell (World.block_lt_of_cell? w _ hw893_3)).trans hw893_3)⟩ (fun hHeld => ?_); refine with_tabW waterhourref04_Narrowed.tab7 waterhourref04_Narrowed.bits7 (fun HT_ HW_ => ?_)
          generalize w32.drew = w33 at HO889 BK883 HB hx892_0 hx892_1 hx892_2 hx892_3 hx893_0 hx893_1 hx893_2 hx893_3 hHeld ⊢
          refine pz_ 0 29 HT_ ?_
          refine pz_ 2 31 HT_ ?_
          refine pz_ 3 32 HT_ ?_
          refine pz_ 4 33 HT_ ?_
          refine pz_ 5 34 HT_ ?_
          refine pz_ 6 35 HT_ ?_
          refine pz_ 9 38 HT_ ?_
          refine pz_ 11 40 HT_ ?_
          refine pz_ 12 41 HT_ ?_
          refine pz_ 13 42 HT_ ?_
          refine pz_ 14 43 HT_ ?_
          refine pz_ 15 44 HT_ ?_
          refine take_ (i := 1) (N := some 30) (v := ?_) (a' := ?_) #[true, true, true, true, true, true, true, false, false, true, false, true, true, true, true, true, false, false, false, false] rfl rfl (take_ofW HT_.out HW_.out (by kernel_rfl)) (fun _ _ _ h => h) (Or.inl ⟨by rfl, ?_⟩) hHeld ?_ ?_
          rotate_left
          ·rintro w' ⟨s0, s1, s2, s3, s4, s5, s6, s7, s8, s9⟩
           go_simp
           with_reducible rfl
          rotate_left
          ·simp only [Act.put, List.setIfInBounds_toArray, List.set_cons_zero, List.set_cons_succ, i64_w, i32_w]
           rfl
          refine take_ (i := 7) (N := some 36) (v := ?_) (a' := ?_) #[true, true, true, true, true, true, true, true, false, true, false, true, true, true, true, true, false, false, false, false] rfl rfl (take_ofW HT_.out HW_.out (by kernel_rfl)) (fun _ _ _ h => h) (Or.inl ⟨by rfl, ?_⟩) hHeld ?_ ?_
          rotate_left
          ·rintro w' ⟨s0, s1, s2, s3, s4, s5, s6, s7, s8, s9⟩
           go_simp
           with_reducible rfl
          rotate_left
          ·simp only [Act.put, List.setIfInBounds_toArray, List.set_cons_zero, List.set_cons_succ, i64_w, i32_w]
           rfl
          refine pz_ 8 37 HT_ ?_
          refine take_ (i := 10) (N := some 39) (v := ?_) (a' := ?_) #[true, true, true, true, true, true, true, true, true, true, true, true, true, true, true, true, false, false, false, false] rfl rfl (take_ofW HT_.out HW_.out (by kernel_rfl)) (fun _ _ _ h => h) (Or.inl ⟨by rfl, ?_⟩) hHeld ?_ ?_
          rotate_left
          ·rintro w' ⟨s0, s1, s2, s3, s4, s5, s6, s7, s8, s9⟩
           go_simp
           with_reducible rfl
          rotate_left
          ·simp only [Act.put, List.setIfInBounds_toArray, List.set_cons_zero, List.set_cons_succ, i64_w, i32_w]
           rfl
          refine take_ (i := 16) (N := some 45) (v := ?_) (a' := ?_) #[true, true, true, true, true, true, true, true, true, true, true, true, true, true, true, true, true, false, false, false] rfl rfl (take_ofW HT_.out HW_.out (by kernel_rfl)) (fun _ _ _ h => h) (Or.inl ⟨by rfl, ?_⟩) hHeld ?_ ?_
          rotate_left
          ·rintro w' ⟨s0, s1, s2, s3, s4, s5, s6, s7, s8, s9⟩
           go_simp
           with_reducible rfl
          rotate_left
          ·simp only [Act.put, List.setIfInBounds_toArray, List.set_cons_zero, List.set_cons_succ, i64_w, i32_w]
           rfl
          refine pz_ 17 46 HT_ ?_
          refine pz_ 18 47 HT_ ?_
          refine last_ (i := 19) (N := none) #[true, true, true, true, true, true, true, true, true, true, true, true, true, true, true, true, true, true, true, true] rfl rfl (one_of HT_.out (by kernel_rfl)) (by decide) (fun K hK => ?_)
          have hs34 : w33.cell? ⟨gb883, 0, none⟩ = some (.int .i64 a2_0) := (blk_cell BK883.out 0).trans rfl
          have hfs34 := blk_frozen BK883.out 0
          have hs35 : w33.cell? ⟨gb883, 1, none⟩ = some (.int .i64 a2_1) := (blk_cell BK883.out 1).trans rfl
          have hfs35 := blk_frozen BK883.out 1
          refine skip_ (w1 := ?_) (by rfl) rfl ?_ ?_
          rotate_left
          ·go_simp
           rfl
          refine hK.out _ _ ?_
          clear hK K
          refine done_ (done_of HT_.out (by kernel_rfl)) ?_
          have n0_ : Aside0 (Kd.R k51 51 ((w33.setCell ⟨gb883, 0, none⟩ (.int .i64 ji20)).setCell ⟨gb883, 1, none⟩ (.int .i64 ji21)) w.heap.size (fun _ => True) v888 t887) := ⟨by (with_reducible repeat (first | apply Kd.R_alloc | apply Kd.R_drewN | apply Kd.R_drew)); exact Kd.R_mono (Kd.R_far (p := ⟨gb883, 1, none⟩) (Kd.R_far (p := ⟨gb883, 0, none⟩) (Kd.R_types HO889.out BK883.out (by decide)) (fun _ hk => hk.2) (.int .i64 ji20)) (fun _ hk => hk.2) (.int .i64 ji21)) (fun _ hk => trivial)⟩
          have n1_ : Aside0 (((w33.setCell ⟨gb883, 0, none⟩ (.int .i64 ji20)).setCell ⟨gb883, 1, none⟩ (.int .i64 ji21)).heap[gb883]? = some (.cells #[.int .i64 ji20, .int .i64 ji21] 49 (0, 0))) := ⟨by (with_reducible repeat (first | refine blk_drewN ?_ _ | refine blk_drew ?_ | refine blk_alloc ?_ _)); refine blk_put (cs := #[.int .i64 ji20, .int .i64 a2_1]) ?_ 1 _ rfl; (with_reducible repeat (first | refine blk_drewN ?_ _ | refine blk_drew ?_ | refine blk_alloc ?_ _)); refine blk_put (cs := #[.int .i64 a2_0, .int .i64 a2_1]) ?_ 0 _ rfl; (with_reducible repeat (first | refine blk_drewN ?_ _ | refine blk_drew ?_ | refine blk_alloc ?_ _)); exact BK883.out⟩
          have n2_ : Aside0 (Below w.heap.size w ((w33.setCell ⟨gb883, 0, none⟩ (.int .i64 ji20)).setCell ⟨gb883, 1, none⟩ (.int .i64 ji21))) := ⟨bl_⟩
          (try clear HO889)
          (try clear BK883)
          (try clear HB)
          generalize ((w33.setCell ⟨gb883, 0, none⟩ (.int .i64 ji20)).setCell ⟨gb883, 1, none⟩ (.int .i64 ji21)) = w36 at n0_ n1_ n2_ ⊢
          have HO889 := n0_
          have BK883 := n1_
          have HB := n2_
          clear n0_ n1_ n2_
          have hcz37_0 : w36.cell? ⟨gb883, 0, none⟩ = some (.int .i64 ji20) := (blk_cell BK883.out 0).trans rfl
          have hcz37_1 : w36.cell? ⟨gb883, 1, none⟩ = some (.int .i64 ji21) := (blk_cell BK883.out 1).trans rfl
          have hfz37_0 := blk_frozen BK883.out 0
          have hfz37_1 := blk_frozen BK883.out 1
          have p30 : 0 ≤ (a1 : Int) := of_decide_eq_true (by first | (with_reducible assumption) | assumption)
          have q30 : (a1 : Int) < ((t887.length : Int) : Int) := of_decide_eq_true (by first | (with_reducible assumption) | assumption)
          obtain ⟨go30, co30, eo30, gb30, gl30, cl30, HG30⟩ := Kd.R_form HO889.out (by omega)
          (first | cases eo30 | (injection eo30 with ea_ en_ ec_; (first | subst ea_ | (injection ea_ with ea_; subst ea_)); subst ec_; clear en_))
          have GB30 := a_ gb30
          have GG30 := a_ HG30
          clear gb30 gl30 HG30
          obtain ⟨ce30, hcl30, hM30, hcc30, hfr30⟩ := Kd.R_elem HO889.out z51 (a1 : Int) p30 q30
          obtain rfl := k51_openM hM30
          have hx30_0 : w36.cell? ⟨go30, (a1 : Int).toNat * 4, none⟩ = some (.int .i64 ((rd_T51 t887 a1).f0.f0)) := hcc30 0 _ rfl
          have hx30_1 : w36.cell? ⟨go30, (a1 : Int).toNat * 4 + 1, none⟩ = some (.int .i64 ((rd_T51 t887 a1).f0.f1)) := hcc30 1 _ rfl
          have hx30_2 : w36.cell? ⟨go30, (a1 : Int).toNat * 4 + 2, none⟩ = some (.int .i64 ((rd_T51 t887 a1).f1.f0)) := hcc30 2 _ rfl
          have hx30_3 : w36.cell? ⟨go30, (a1 : Int).toNat * 4 + 3, none⟩ = some (.int .i64 ((rd_T51 t887 a1).f1.f1)) := hcc30 3 _ rfl
          have hf30_0 : w36.frozen? ⟨go30, (a1 : Int).toNat * 4, none⟩ = false := hfr30 0
          have hf30_1 : w36.frozen? ⟨go30, (a1 : Int).toNat * 4 + 1, none⟩ = false := hfr30 1
          have hf30_2 : w36.frozen? ⟨go30, (a1 : Int).toNat * 4 + 2, none⟩ = false := hfr30 2
          have hf30_3 : w36.frozen? ⟨go30, (a1 : Int).toNat * 4 + 3, none⟩ = false := hfr30 3
          clear hcl30 hcc30 hfr30 hM30
          replace p30 := eq_true p30
          replace q30 := eq_true q30
          have HX38 := a_ (show Kd.R k51 51 w36 w.heap.size (fun _ => True) (.slice (some ⟨go30, 0, none⟩) t887.length co30) t887 from (rl_ HO889.out))
          obtain ⟨ce38, hcl38, hM38, hcc38, hfr38⟩ := Kd.R_elem HX38.out z51 (a1 : Int) (of_decide_eq_true (by first | (with_reducible assumption) | assumption)) (by have h_ : (a1 : Int) < ((t887.length : Int) : Int) := of_decide_eq_true (by first | (with_reducible assumption) | assumption); first | exact h_ | (have e_ := (Kd.R_reads' HO889.out).1; omega) | simpa using h_)
          obtain rfl := k51_openM hM38
          have HP38 := Kd.R_seg HX38.out (a1 : Int) (of_decide_eq_true (by first | (with_reducible assumption) | assumption)) (by have h_ : (a1 : Int) < ((t887.length : Int) : Int) := of_decide_eq_true (by first | (with_reducible assumption) | assumption); first | exact h_ | (have e_ := (Kd.R_reads' HO889.out).1; omega) | simpa using h_) (seg := [.int .i64 ji20, .int .i64 ji21]) (j := 2) hcl38 hcc38 (show 4 ≤ 4 from by decide) (x' := (⟨(⟨(rd_T51 t887 a1).f0.f0, (rd_T51 t887 a1).f0.f1⟩ : S49), (⟨ji20, ji21⟩ : S49)⟩ : S51)) (k51_mkM _ _ _ (⟨(⟨(rd_T51 t887 a1).f0.f0, (rd_T51 t887 a1).f0.f1⟩ : S49), (⟨ji20, ji21⟩ : S49)⟩ : S51) ) (fun _ hk => hk)
          have hx38_2 := hcc38 2 _ rfl
          (try simp only [show (k51).sz = 4 from rfl, Nat.mul_one, Nat.add_zero] at hx38_2)
          have hf38_2 := hfr38 2
          (try simp only [show (k51).sz = 4 from rfl, Nat.mul_one, Nat.add_zero] at hf38_2)
          have hx38_3 := hcc38 3 _ rfl
          (try simp only [show (k51).sz = 4 from rfl, Nat.mul_one, Nat.add_zero] at hx38_3)
          have hf38_3 := hfr38 3
          (try simp only [show (k51).sz = 4 from rfl, Nat.mul_one, Nat.add_zero] at hf38_3)
          clear hcl38 hcc38 hfr38 hM38
          try go_wp2_with (first | ((with_reducible refine gate_store (t := 49) (p := 57) rfl ?_); refine store_event (t := 49) (p := 57) (v := ?vo_w39) (w1 := ((w36.setCell ⟨go30, (a1 : Int).toNat * 4 + 2, none⟩ (.int .i64 ji20)).setCell ⟨go30, (a1 : Int).toNat * 4 + 3, none⟩ (.int .i64 ji21))) ?hg ?ho ?hn ?hr ?_; (case ho => rfl); (case hg => rfl); (case hn => rfl); (case hr => first | (go_simp; done) | (go_simp; rfl)); intro w39 hw; have hg : w36.grownBy w39 (some go30) := (by rw [hw]; exact HP38.2); have hp_ : Kd.R k51 51 w39 w.heap.size (fun _ => True) (.slice (some ⟨go30, 0, none⟩) t887.length co30) y894 := (by rw [hw, Ny894.out]; exact HP38.1); clear HP38; have n0_ := a_ (blk_grown (g := gb883) (o := .cells #[.int .i64 ji20, .int .i64 ji21] 49 (0, 0)) (by (with_reducible repeat (first | refine blk_drewN ?_ _ | refine blk_drew ?_ | refine blk_alloc ?_ _)); exact BK883.out) hg (Kd.R_ne HO889.out BK883.out (by decide))); have n1_ := a_ (hp_); have n2_ := a_ ((by rw [hw]; exact below_set (below_set (HB.out) GB30.out) GB30.out : Below w.heap.size w w39)); clear BK883; clear HO889; clear HB; have BK883 := n0_; have HO889 := n1_; have HB := n2_; clear n0_ n1_ n2_; clear hg hw hp_))
          go_ret2
          exact ⟨_, by first | rfl | (simp [errW_none, errW_some] <;> rfl) | (simp only [← hji20, ← hji21]; first | rfl | (simp [errW_none, errW_some] <;> rfl)) | (simp [*, errW_none, errW_some] <;> rfl), by (with_reducible repeat (first | apply Kd.R_alloc | apply Kd.R_drewN | apply Kd.R_drew)); exact HO889.out, bl_⟩
         ·rw [if_neg c29] at H
          exact absurd H (by simp)
       ·replace c19 := Bool.eq_false_iff.mpr c19
        subst c19
        have H1 : (if a2_0 > a2_1 then (some (([] : List (S51)), 4)) else (if a1 < (t887.length : Int) then (some ((t887.set (a1 : Int).toNat (⟨(⟨(rd_T51 t887 a1).f0.f0, (rd_T51 t887 a1).f0.f1⟩ : S49), (⟨a2_0, a2_1⟩ : S49)⟩ : S51)), 0)) else (none))) = some (r1, r2) := by rw [if_neg (show ¬ (false = true) by decide)] at H; exact H
        clear H
        have H := H1
        clear H1
        by_cases c40 : a2_0 > a2_1
        ·rw [if_pos c40] at H
         have c40b0 : decide (a2_1 < a2_0) = true := decide_eq_true c40
         clear c40
         simp only [Option.some.injEq, Prod.mk.injEq] at H
         obtain ⟨rfl, rfl⟩ := H
         go_wp2_with (first | ((with_reducible refine gate_callee (f := 67) rfl ?_); refine goesL_ (some 22) rfl rfl Tryd.func67 (by kernel_rfl) rfl #[.slice A0 l0.length c0] rfl tm_ ?_; (with_reducible refine (waterhourref04_copied.calls _ _ l0 t887 _ ?side1 ?side2 A15.out).mono ?_); (case side1 => exact cl_ (Kd.C_below HR0.out HB.out)); (case side2 => exact HC0.out); rintro e w41 ⟨v888, rfl, ho0, hb⟩; refine ⟨_, rfl, ?_⟩; have n0_ := a_ (Kd.R_lower ho0 (below_size bl_)); have n1_ := a_ (bb_ BK883.out hb); have n2_ := a_ (below_step bl_ hb); clear BK883; clear HB; have HO889 := n0_; have BK883 := n1_; have HB := n2_; clear n0_ n1_ n2_; (try clear hb); (try clear hb2); (try clear hk); (try clear hi); (try clear ho0); have p890 : 0 ≤ (a1 : Int) := of_decide_eq_true (by first | (with_reducible assumption) | assumption); have q890 : a1 < (l0.length : Int) := of_decide_eq_true (by first | (with_reducible assumption) | assumption); obtain ⟨ad890, e890, hx890_0, hx890_1, hx890_2, hx890_3⟩ := at_T51 HR0.out a1 p890 q890; cases e890; replace hx890_0 := (HB.out.cell (World.block_lt_of_cell? w _ hx890_0)).trans hx890_0; replace hx890_1 := (HB.out.cell (World.block_lt_of_cell? w _ hx890_1)).trans hx890_1; replace hx890_2 := (HB.out.cell (World.block_lt_of_cell? w _ hx890_2)).trans hx890_2; replace hx890_3 := (HB.out.cell (World.block_lt_of_cell? w _ hx890_3)).trans hx890_3; replace p890 := eq_true p890; replace q890 := eq_true q890) | ((with_reducible refine gate_callee (f := 38) rfl ?_); refine goesL_ (some 28) rfl rfl Tryd.func38 (by kernel_rfl) rfl #[.agg #[.int .i64 ((rd_T51 l0 a1).f1.f0), .int .i64 ((rd_T51 l0 a1).f1.f1)]] rfl tm_ ?_; (with_reducible refine (waterhourref04_Known.calls ((rd_T51 l0 a1).f1.f0) ((rd_T51 l0 a1).f1.f1) false _ A18.out).mono ?_); rintro e w42 ⟨rfl, hb⟩; refine ⟨_, rfl, ?_⟩; have n0_ := a_ (Kd.R_below (rl_ HO889.out) hb); have n1_ := a_ (bb_ BK883.out hb); have n2_ := a_ (below_step bl_ hb); clear HO889; clear BK883; clear HB; have HO889 := n0_; have BK883 := n1_; have HB := n2_; clear n0_ n1_ n2_; (try clear hb); (try clear hb2); (try clear hk); (try clear hi); have hcz43_0 : w42.cell? ⟨gb883, 0, none⟩ = some (.int .i64 a2_0) := (blk_cell BK883.out 0).trans rfl; have hcz43_1 : w42.cell? ⟨gb883, 1, none⟩ = some (.int .i64 a2_1) := (blk_cell BK883.out 1).trans rfl; have hfz43_0 := blk_frozen BK883.out 0; have hfz43_1 := blk_frozen BK883.out 1))
         go_ret2
         exact ⟨_, by first | rfl | (simp [errW_none, errW_some] <;> rfl) | (simp [*, errW_none, errW_some] <;> rfl), by first | exact Kd.R_nil _ _ _ _ _ | exact Kd.N_nil _ _ _ _ _ | exact Kd.V_nil _ _ _ _ _ | exact Kd.Q_nil _ _ _ _ _ | exact Kd.S_nil _ _ _ _ _, bl_⟩
        ·rw [if_neg c40] at H
         have c40b0 : decide (a2_1 < a2_0) = false := decide_eq_false c40
         clear c40
         by_cases c44 : a1 < (t887.length : Int)
         ·rw [if_pos c44] at H
          have c44b0 : decide (a1 < (t887.length : Int)) = true := decide_eq_true c44
          clear c44
          obtain ⟨y895, hy895⟩ : ∃ y_ : List (S51), y_ = (t887.set (a1 : Int).toNat (⟨(⟨(rd_T51 t887 a1).f0.f0, (rd_T51 t887 a1).f0.f1⟩ : S49), (⟨a2_0, a2_1⟩ : S49)⟩ : S51)) := ⟨_, rfl⟩
          replace H : (some (y895, 0)) = some (r1, r2) := by first | (rw [hy895]; with_reducible exact H) | (have H2_ := (Option.bind_some _ _).symm.trans H; rw [hy895]; with_reducible exact H2_) | (have H2_ := (Option.bind_some _ _).symm.trans H; with_reducible exact H2_) | with_reducible exact H | (rw [hy895]; exact H) | exact H
          have Ny895 := a_ hy895
          clear hy895
          simp only [Option.some.injEq, Prod.mk.injEq] at H
          obtain ⟨rfl, rfl⟩ := H
          go_wp2_with (first | ((with_reducible refine gate_callee (f := 67) rfl ?_); refine goesL_ (some 22) rfl rfl Tryd.func67 (by kernel_rfl) rfl #[.slice A0 l0.length c0] rfl tm_ ?_; (with_reducible refine (waterhourref04_copied.calls _ _ l0 t887 _ ?side1 ?side2 A15.out).mono ?_); (case side1 => exact cl_ (Kd.C_below HR0.out HB.out)); (case side2 => exact HC0.out); rintro e w46 ⟨v888, rfl, ho0, hb⟩; refine ⟨_, rfl, ?_⟩; have n0_ := a_ (Kd.R_lower ho0 (below_size bl_)); have n1_ := a_ (bb_ BK883.out hb); have n2_ := a_ (below_step bl_ hb); clear BK883; clear HB; have HO889 := n0_; have BK883 := n1_; have HB := n2_; clear n0_ n1_ n2_; (try clear hb); (try clear hb2); (try clear hk); (try clear hi); (try clear ho0); have p890 : 0 ≤ (a1 : Int) := of_decide_eq_true (by first | (with_reducible assumption) | assumption); have q890 : a1 < (l0.length : Int) := of_decide_eq_true (by first | (with_reducible assumption) | assumption); obtain ⟨ad890, e890, hx890_0, hx890_1, hx890_2, hx890_3⟩ := at_T51 HR0.out a1 p890 q890; cases e890; replace hx890_0 := (HB.out.cell (World.block_lt_of_cell? w _ hx890_0)).trans hx890_0; replace hx890_1 := (HB.out.cell (World.block_lt_of_cell? w _ hx890_1)).trans hx890_1; replace hx890_2 := (HB.out.cell (World.block_lt_of_cell? w _ hx890_2)).trans hx890_2; replace hx890_3 := (HB.out.cell (World.block_lt_of_cell? w _ hx890_3)).trans hx890_3; replace p890 := eq_true p890; replace q890 := eq_true q890) | ((with_reducible refine gate_callee (f := 38) rfl ?_); refine goesL_ (some 28) rfl rfl Tryd.func38 (by kernel_rfl) rfl #[.agg #[.int .i64 ((rd_T51 l0 a1).f1.f0), .int .i64 ((rd_T51 l0 a1).f1.f1)]] rfl tm_ ?_; (with_reducible refine (waterhourref04_Known.calls ((rd_T51 l0 a1).f1.f0) ((rd_T51 l0 a1).f1.f1) false _ A18.out).mono ?_); rintro e w47 ⟨rfl, hb⟩; refine ⟨_, rfl, ?_⟩; have n0_ := a_ (Kd.R_below (rl_ HO889.out) hb); have n1_ := a_ (bb_ BK883.out hb); have n2_ := a_ (below_step bl_ hb); clear HO889; clear BK883; clear HB; have HO889 := n0_; have BK883 := n1_; have HB := n2_; clear n0_ n1_ n2_; (try clear hb); (try clear hb2); (try clear hk); (try clear hi); have hcz48_0 : w47.cell? ⟨gb883, 0, none⟩ = some (.int .i64 a2_0) := (blk_cell BK883.out 0).trans rfl; have hcz48_1 : w47.cell? ⟨gb883, 1, none⟩ = some (.int .i64 a2_1) := (blk_cell BK883.out 1).trans rfl; have hfz48_0 := blk_frozen BK883.out 0; have hfz48_1 := blk_frozen BK883.out 1; have p45 : 0 ≤ (a1 : Int) := of_decide_eq_true (by first | (with_reducible assumption) | assumption); have q45 : (a1 : Int) < ((t887.length : Int) : Int) := of_decide_eq_true (by first | (with_reducible assumption) | assumption); obtain ⟨go45, co45, eo45, gb45, gl45, cl45, HG45⟩ := Kd.R_form HO889.out (by omega); (first | cases eo45 | (injection eo45 with ea_ en_ ec_; (first | subst ea_ | (injection ea_ with ea_; subst ea_)); subst ec_; clear en_)); have GB45 := a_ gb45; have GG45 := a_ HG45; clear gb45 gl45 HG45; obtain ⟨ce45, hcl45, hM45, hcc45, hfr45⟩ := Kd.R_elem HO889.out z51 (a1 : Int) p45 q45; obtain rfl := k51_openM hM45; have hx45_0 : w47.cell? ⟨go45, (a1 : Int).toNat * 4, none⟩ = some (.int .i64 ((rd_T51 t887 a1).f0.f0)) := hcc45 0 _ rfl; have hx45_1 : w47.cell? ⟨go45, (a1 : Int).toNat * 4 + 1, none⟩ = some (.int .i64 ((rd_T51 t887 a1).f0.f1)) := hcc45 1 _ rfl; have hx45_2 : w47.cell? ⟨go45, (a1 : Int).toNat * 4 + 2, none⟩ = some (.int .i64 ((rd_T51 t887 a1).f1.f0)) := hcc45 2 _ rfl; have hx45_3 : w47.cell? ⟨go45, (a1 : Int).toNat * 4 + 3, none⟩ = some (.int .i64 ((rd_T51 t887 a1).f1.f1)) := hcc45 3 _ rfl; have hf45_0 : w47.frozen? ⟨go45, (a1 : Int).toNat * 4, none⟩ = false := hfr45 0; have hf45_1 : w47.frozen? ⟨go45, (a1 : Int).toNat * 4 + 1, none⟩ = false := hfr45 1; have hf45_2 : w47.frozen? ⟨go45, (a1 : Int).toNat * 4 + 2, none⟩ = false := hfr45 2; have hf45_3 : w47.frozen? ⟨go45, (a1 : Int).toNat * 4 + 3, none⟩ = false := hfr45 3; clear hcl45 hcc45 hfr45 hM45; replace p45 := eq_true p45; replace q45 := eq_true q45; have HX49 := a_ (show Kd.R k51 51 w47 w.heap.size (fun _ => True) (.slice (some ⟨go45, 0, none⟩) t887.length co45) t887 from (rl_ HO889.out)); obtain ⟨ce49, hcl49, hM49, hcc49, hfr49⟩ := Kd.R_elem HX49.out z51 (a1 : Int) (of_decide_eq_true (by first | (with_reducible assumption) | assumption)) (by have h_ : (a1 : Int) < ((t887.length : Int) : Int) := of_decide_eq_true (by first | (with_reducible assumption) | assumption); first | exact h_ | (have e_ := (Kd.R_reads' HO889.out).1; omega) | simpa using h_); obtain rfl := k51_openM hM49; have HP49 := Kd.R_seg HX49.out (a1 : Int) (of_decide_eq_true (by first | (with_reducible assumption) | assumption)) (by have h_ : (a1 : Int) < ((t887.length : Int) : Int) := of_decide_eq_true (by first | (with_reducible assumption) | assumption); first | exact h_ | (have e_ := (Kd.R_reads' HO889.out).1; omega) | simpa using h_) (seg := [.int .i64 a2_0, .int .i64 a2_1]) (j := 2) hcl49 hcc49 (show 4 ≤ 4 from by decide) (x' := (⟨(⟨(rd_T51 t887 a1).f0.f0, (rd_T51 t887 a1).f0.f1⟩ : S49), (⟨a2_0, a2_1⟩ : S49)⟩ : S51)) (k51_mkM _ _ _ (⟨(⟨(rd_T51 t887 a1).f0.f0, (rd_T51 t887 a1).f0.f1⟩ : S49), (⟨a2_0, a2_1⟩ : S49)⟩ : S51) ) (fun _ hk => hk); have hx49_2 := hcc49 2 _ rfl; (try simp only [show (k51).sz = 4 from rfl, Nat.mul_one, Nat.add_zero] at hx49_2); have hf49_2 := hfr49 2; (try simp only [show (k51).sz = 4 from rfl, Nat.mul_one, Nat.add_zero] at hf49_2); have hx49_3 := hcc49 3 _ rfl; (try simp only [show (k51).sz = 4 from rfl, Nat.mul_one, Nat.add_zero] at hx49_3); have hf49_3 := hfr49 3; (try simp only [show (k51).sz = 4 from rfl, Nat.mul_one, Nat.add_zero] at hf49_3); clear hcl49 hcc49 hfr49 hM49) | ((with_reducible refine gate_store (t := 49) (p := 57) rfl ?_); refine store_event (t := 49) (p := 57) (v := ?vo_w50) (w1 := ((w47.setCell ⟨go45, (a1 : Int).toNat * 4 + 2, none⟩ (.int .i64 a2_0)).setCell ⟨go45, (a1 : Int).toNat * 4 + 3, none⟩ (.int .i64 a2_1))) ?hg ?ho ?hn ?hr ?_; (case ho => rfl); (case hg => rfl); (case hn => rfl); (case hr => first | (go_simp; done) | (go_simp; rfl)); intro w50 hw; have hg : w47.grownBy w50 (some go45) := (by rw [hw]; exact HP49.2); have hp_ : Kd.R k51 51 w50 w.heap.size (fun _ => True) (.slice (some ⟨go45, 0, none⟩) t887.length co45) y895 := (by rw [hw, Ny895.out]; exact HP49.1); clear HP49; have n0_ := a_ (blk_grown (g := gb883) (o := .cells #[.int .i64 a2_0, .int .i64 a2_1] 49 (0, 0)) (by (with_reducible repeat (first | refine blk_drewN ?_ _ | refine blk_drew ?_ | refine blk_alloc ?_ _)); exact BK883.out) hg (Kd.R_ne HO889.out BK883.out (by decide))); have n1_ := a_ (hp_); have n2_ := a_ ((by rw [hw]; exact below_set (below_set (HB.out) GB45.out) GB45.out : Below w.heap.size w w50)); clear BK883; clear HO889; clear HB; have BK883 := n0_; have HO889 := n1_; have HB := n2_; clear n0_ n1_ n2_; clear hg hw hp_))
          go_ret2
          exact ⟨_, by first | rfl | (simp [errW_none, errW_some] <;> rfl) | (simp [*, errW_none, errW_some] <;> rfl), by (with_reducible repeat (first | apply Kd.R_alloc | apply Kd.R_drewN | apply Kd.R_drew)); exact HO889.out, bl_⟩
         ·rw [if_neg c44] at H
          exact absurd H (by simp)
      ·rw [if_neg c17] at H
       exact absurd H (by simp)
     ·rw [if_neg c16] at H
      exact absurd H (by simp)
 ·replace c5 := Bool.eq_false_iff.mpr c5
  subst c5
  have H1 : (some (([] : List (S51)), 40)) = some (r1, r2) := by rw [if_neg (show ¬ (false = true) by decide)] at H; exact H
  clear H
  have H := H1
  clear H1
  simp only [Option.some.injEq, Prod.mk.injEq] at H
  obtain ⟨rfl, rfl⟩ := H
  go_enter Tryd.func58, Tryd.ntmps58
  go_wp2_with (first | ((with_reducible refine gate_dst (N := 5) rfl ?_); refine box_event ?hg (N := 5) ?hd (cs := #[.int .i64 a2_0, .int .i64 a2_1]) (t := 49) ?hr ?_; (case hd => rfl); (case hg => rfl); (case hr => first | (go_simp; done) | (go_simp; rfl)); intro gb883 hg w51 hbox hb; have n0_ := a_ (below_step bl_ hb); have n1_ := a_ (hbox); have n2_ := a_ ((bz_ (w := w) hg)); have n3_ := a_ ((bz_ (w := w) hg)); clear HB; have HB := n0_; have BK883 := n1_; have GW883 := n2_; have GE883 := n3_; clear n0_ n1_ n2_ n3_; clear hb hbox hg) | ((with_reducible refine gate_callee (f := 31) rfl ?_); refine goesL_ (some 10) rfl rfl Tryd.func31 (by kernel_rfl) rfl #[.slice A0 l0.length c0] rfl tm_ ?_; (with_reducible refine (waterhourref04_Valid.calls k _ _ l0 false _ ?side1 ?side2 A4.out).mono ?_); (case side1 => exact cl_ (Kd.C_below HR0.out HB.out)); (case side2 => exact HC0.out); rintro e w52 ⟨rfl, hb⟩; refine ⟨_, rfl, ?_⟩; have n0_ := a_ (bb_ BK883.out hb); have n1_ := a_ (below_step bl_ hb); clear BK883; clear HB; have BK883 := n0_; have HB := n1_; clear n0_ n1_; (try clear hb); (try clear hb2); (try clear hk); (try clear hi)))
  go_ret2
  exact ⟨_, by first | rfl | (simp [errW_none, errW_some] <;> rfl) | (simp [*, errW_none, errW_some] <;> rfl), by first | exact Kd.R_nil _ _ _ _ _ | exact Kd.N_nil _ _ _ _ _ | exact Kd.V_nil _ _ _ _ _ | exact Kd.Q_nil _ _ _ _ _ | exact Kd.S_nil _ _ _ _ _, bl_⟩
end Go.Proofs.YtgiihjcpgjpkcaaDoor.Q
