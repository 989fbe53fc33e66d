/- Contracts of functions of the given program: each Go function as a plain Lean function (name.f) and the proof that its call answers just so, for every reading of its arguments. Written by the session's program wip/xprint.py out of the translation. -/
import Derived.Test.YtgiihjcpgjpkcaaGreatDoorQ0
import Derived.Test.YtgiihjcpgjpkcaaGreatDoorQTA
import Derived.Test.YtgiihjcpgjpkcaaGreatDoorQTB
namespace Go.Proofs.YtgiihjcpgjpkcaaGreatDoor.Q
open Go.RowKit Go.Proofs.YtgiihjcpgjpkcaaGreatDoorW.PrintWords Go.Proofs.YtgiihjcpgjpkcaaGreatDoorW.PrintLast Go.Proofs.YtgiihjcpgjpkcaaGreatDoorW.PrintMore
attribute [local go_sem] max2_int min2_int max_two min_two max_three min_three max_four min_four   -- for this text's walks alone
set_option linter.unusedVariables false
set_option linter.unusedSimpArgs false

/-! ### waterhourref04_Parse: function 9 -/
mutual
def waterhourref04_Parse.l0 : Nat → ByteArray → List ByteArray → List (S37) → Int → Option ((List (S37)) × Int)
 | 0, _, _, _, _ => none
 | k + 1, x0, x4, x5, x6 => if x6 < (x4.length : Int) then (if 0 ≤ x6 then ((waterhourref04_numbers.f k (rdOf ByteArray.empty x4 x6)).bind fun bt342 => (if bt342.2 = true then (if (bt342.1.length : Int) = 2 then (waterhourref04_Parse.j1 k x0 x4 x5 x6 bt342.1 false) else (waterhourref04_Parse.j1 k x0 x4 x5 x6 bt342.1 ((bt342.1.length : Int) != 4))) else (waterhourref04_Parse.j1 k x0 x4 x5 x6 bt342.1 true))) else (none)) else ((waterhourref04_Print.f k x5).bind fun bt339 => (if bt339.2 = 0 then (if bt339.1.toList = x0.toList then (some (x5, 0)) else (some (([] : List (S37)), 3))) else (some (([] : List (S37)), 3))))
def waterhourref04_Parse.j1 : Nat → ByteArray → List ByteArray → List (S37) → Int → List Int → Bool → Option ((List (S37)) × Int)
 | 0, _, _, _, _, _, _ => none
 | k + 1, x0, x4, x5, x6, x7, x42 => if x42 = true then (some (([] : List (S37)), 3)) else (if 0 < (x7.length : Int) then (if 1 < (x7.length : Int) then (if (x7.length : Int) = 4 then (if 2 < (x7.length : Int) then (if 3 < (x7.length : Int) then (if x5.length < 4398046511104 then (waterhourref04_Parse.l0 k x0 x4 (x5 ++ [(⟨(⟨rd x7 0, rd x7 1⟩ : S35), (⟨rd x7 2, rd x7 3⟩ : S35)⟩ : S37)]) (wrap64 (x6 + 1))) else (none)) else (none)) else (none)) else (if x5.length < 4398046511104 then (waterhourref04_Parse.l0 k x0 x4 (x5 ++ [(⟨(⟨rd x7 0, rd x7 1⟩ : S35), (⟨1, 0⟩ : S35)⟩ : S37)]) (wrap64 (x6 + 1))) else (none))) else (none)) else (none))
end
def waterhourref04_Parse.f (k : Nat) (a0 : ByteArray) : Option ((List (S37)) × Int) := if (a0.size : Int) > 1200 then (some (([] : List (S37)), 3)) else ((waterhourref04_words.f k a0).bind fun t336 => (waterhourref04_Parse.l0 k a0 t336 ([] : List (S37)) 0))
theorem waterhourref04_Parse.mono_l : ∀ k, (∀ y0 y1 y2 y3, LeO (waterhourref04_Parse.l0 k y0 y1 y2 y3) (waterhourref04_Parse.l0 (k + 1) y0 y1 y2 y3)) ∧ (∀ y0 y1 y2 y3 y4 y5, LeO (waterhourref04_Parse.j1 k y0 y1 y2 y3 y4 y5) (waterhourref04_Parse.j1 (k + 1) y0 y1 y2 y3 y4 y5))
 | 0 => ⟨fun _ _ _ _ r h => by simp [waterhourref04_Parse.l0] at h, fun _ _ _ _ _ _ r h => by simp [waterhourref04_Parse.j1] at h⟩
 | k + 1 => by
  obtain ⟨ih0, ih1⟩ := waterhourref04_Parse.mono_l k
  refine ⟨?_, ?_⟩
  ·intro y0 y1 y2 y3
   unfold waterhourref04_Parse.l0
   repeat' first
   | (with_reducible exact ih0 _ _ _ _)
   | (with_reducible exact ih1 _ _ _ _ _ _)
   | (with_reducible exact waterhourref04_Print.mono _ _)
   | (with_reducible exact waterhourref04_numbers.mono _ _)
   | (with_reducible exact waterhourref04_words.mono _ _)
   | (with_reducible exact LeO.refl _)
   | (with_reducible exact LeO.none _)
   | (with_reducible refine LeO.ite ?_ ?_)
   | (with_reducible refine LeO.bind ?_ (fun _ => ?_))
   | exact ih0 _ _ _ _
   | exact ih1 _ _ _ _ _ _
   | exact waterhourref04_Print.mono _ _
   | exact waterhourref04_numbers.mono _ _
   | exact waterhourref04_words.mono _ _
   | exact LeO.none _
   | refine LeO.ite ?_ ?_
   | refine LeO.bind ?_ (fun _ => ?_)
  ·intro y0 y1 y2 y3 y4 y5
   unfold waterhourref04_Parse.j1
   repeat' first
   | (with_reducible exact ih0 _ _ _ _)
   | (with_reducible exact ih1 _ _ _ _ _ _)
   | (with_reducible exact waterhourref04_Print.mono _ _)
   | (with_reducible exact waterhourref04_numbers.mono _ _)
   | (with_reducible exact waterhourref04_words.mono _ _)
   | (with_reducible exact LeO.refl _)
   | (with_reducible exact LeO.none _)
   | (with_reducible refine LeO.ite ?_ ?_)
   | (with_reducible refine LeO.bind ?_ (fun _ => ?_))
   | exact ih0 _ _ _ _
   | exact ih1 _ _ _ _ _ _
   | exact waterhourref04_Print.mono _ _
   | exact waterhourref04_numbers.mono _ _
   | exact waterhourref04_words.mono _ _
   | exact LeO.none _
   | refine LeO.ite ?_ ?_
   | refine LeO.bind ?_ (fun _ => ?_)
theorem waterhourref04_Parse.mono : ∀ a0 k, LeO (waterhourref04_Parse.f k a0) (waterhourref04_Parse.f (k + 1) a0) := by
 intro a0 k
 obtain ⟨ih0, ih1⟩ := waterhourref04_Parse.mono_l k
 unfold waterhourref04_Parse.f
 repeat' first
   | (with_reducible exact ih0 _ _ _ _)
   | (with_reducible exact ih1 _ _ _ _ _ _)
   | (with_reducible exact waterhourref04_Print.mono _ _)
   | (with_reducible exact waterhourref04_numbers.mono _ _)
   | (with_reducible exact waterhourref04_words.mono _ _)
   | (with_reducible exact LeO.refl _)
   | (with_reducible exact LeO.none _)
   | (with_reducible refine LeO.ite ?_ ?_)
   | (with_reducible refine LeO.bind ?_ (fun _ => ?_))
   | exact ih0 _ _ _ _
   | exact ih1 _ _ _ _ _ _
   | exact waterhourref04_Print.mono _ _
   | exact waterhourref04_numbers.mono _ _
   | exact waterhourref04_words.mono _ _
   | exact LeO.none _
   | refine LeO.ite ?_ ?_
   | refine LeO.bind ?_ (fun _ => ?_)
def waterhourref04_Parse.T11 : Bool × List (List Nat × List Nat) := (true, [([], []), ([0], [0]), ([1], [1]), ([], []), ([3], [3]), ([4], [4]), ([2, 5], [2, 5]), ([], []), ([6, 7], [6, 7]), ([], []), ([9, 8, 0, 1, 2, 3, 4, 5, 6, 7, 8, 9], [8, 9])])
def waterhourref04_Parse.B11 : List Nat := [0, 1, 3, 0, 8, 24, 63, 0, 255, 0, 1023]
theorem waterhourref04_Parse.tab11 : rtab .any (opsOf Tryz.f9 11) = waterhourref04_Parse.T11 := by kernel_rfl
theorem waterhourref04_Parse.bits11 : waitsOk waterhourref04_Parse.T11.2 waterhourref04_Parse.B11 = true := by kernel_rfl
def waterhourref04_Parse.T13 : Bool × List (List Nat × List Nat) := (true, [([], []), ([0], [0]), ([1], [1]), ([], []), ([3], [3]), ([4], [4]), ([2, 5], [2, 5]), ([0, 1, 2, 3, 4, 5, 6], []), ([7, 6, 0, 1, 2, 3, 4, 5, 6], [6, 7])])
def waterhourref04_Parse.B13 : List Nat := [0, 1, 3, 0, 8, 24, 63, 127, 255]
theorem waterhourref04_Parse.tab13 : rtab .any (opsOf Tryz.f9 13) = waterhourref04_Parse.T13 := by kernel_rfl
theorem waterhourref04_Parse.bits13 : waitsOk waterhourref04_Parse.T13.2 waterhourref04_Parse.B13 = true := by kernel_rfl
set_option maxHeartbeats 8000000 in
set_option maxRecDepth 100000 in
theorem waterhourref04_Parse.calls (k : Nat) (a0 : ByteArray) (r1 : List (S37)) (r2 : Int) (w : World) (ht : TabB w) (h : waterhourref04_Parse.f k a0 = some (r1, r2)) :
  Calls Tryz.prog 9 #[.string a0] w fun e w' => ∃ v0_ : Value, e = .returned (.tuple #[v0_, .int .i64 r2]) ∧ Kd.R k37 37 w' w.heap.size (fun _ => True) v0_ r1 ∧ Below w.heap.size w w' := by
 have hu35 := Tryz.underlying35
 have hu37 := Tryz.underlying37
 have HT := a_ ht
 clear ht
 have HB := a_ (Below.refl w.heap.size w)
 have H : (if (a0.size : Int) > 1200 then (some (([] : List (S37)), 3)) else ((waterhourref04_words.f k a0).bind fun t336 => (waterhourref04_Parse.l0 k a0 t336 ([] : List (S37)) 0))) = some (r1, r2) := h
 clear h
 by_cases c2 : (a0.size : Int) > 1200
 ·rw [if_pos c2] at H
  have c2b0 : decide (1200 < (a0.size : Int)) = true := decide_eq_true c2
  have c2b1 : decide (1200 < a0.size) = true := decide_eq_true (by omega)
  clear c2
  simp only [Option.some.injEq, Prod.mk.injEq] at H
  obtain ⟨rfl, rfl⟩ := H
  go_enter Tryz.func9, Tryz.ntmps9
  go_wp2
  go_ret2
  exact ⟨_, by first | rfl | (simp [errW_none, errW_some] <;> rfl) | (simp [*, errW_none, errW_some] <;> rfl), by first | exact Kd.R_nil _ _ _ _ _ | exact Kd.N_nil _ _ _ _ _ | exact Kd.V_nil _ _ _ _ _ | exact Kd.Q_nil _ _ _ _ _ | exact Kd.S_nil _ _ _ _ _, bl_⟩
 ·rw [if_neg c2] at H
  have c2b0 : decide (1200 < (a0.size : Int)) = false := decide_eq_false c2
  have c2b1 : decide (1200 < a0.size) = false := decide_eq_false (by omega)
  clear c2
  replace H := Option.bind_eq_some_iff.mp H
  obtain ⟨t336, A30, H⟩ := H
  replace H : (waterhourref04_Parse.l0 k a0 t336 ([] : List (S37)) 0) = some (r1, r2) := H
  have A3 := a_ A30
  clear A30
  have H' := a_ H
  clear H
  go_enter Tryz.func9, Tryz.ntmps9
  go_wp2_with (first | ((with_reducible refine gate_callee (f := 35) rfl ?_); refine goesL_ (some 16) rfl rfl Tryz.func35 (by kernel_rfl) rfl #[.string a0] rfl tm_ ?_; (with_reducible refine (waterhourref04_words.calls k a0 t336 _ A3.out).mono ?_); rintro e w4 ⟨v337, rfl, ho0, hb⟩; refine ⟨_, rfl, ?_⟩; have n0_ := a_ (Kd.R_lower ho0 (below_size bl_)); have n1_ := a_ (below_step bl_ hb); clear HB; have HO338 := n0_; have HB := n1_; clear n0_ n1_; (try clear hb); (try clear hb2); (try clear hk); (try clear hi); (try clear ho0)))
  go_loopg [5, 6] k (fun kq v5 v6 w' => ∃ (x5_1 : List (S37)) (x6_1 : Int), v6 = .int .i64 x6_1 ∧ Aside0 (waterhourref04_Parse.l0 kq a0 t336 x5_1 x6_1 = some (r1, r2)) ∧ Aside0 (kq ≤ k) ∧ Aside0 (Kd.R Kd.string 9 w' w.heap.size (fun _ => True) v337 t336) ∧ Aside0 (Kd.R k37 37 w' w.heap.size (fun _ => True) v5 x5_1) ∧ Aside0 (Below w.heap.size w w'))
  case atStart => exact ⟨(([] : List (S37))), (0), (by first | rfl | (simp; done) | (simp [*]; done)), H', ⟨Nat.le_refl _⟩, ⟨rl_ HO338.out⟩, ⟨by first | exact Kd.R_nil _ _ _ _ _ | exact Kd.N_nil _ _ _ _ _ | exact Kd.V_nil _ _ _ _ _ | exact Kd.Q_nil _ _ _ _ _ | exact Kd.S_nil _ _ _ _ _⟩, ⟨bl_⟩⟩
  case round =>
   clear H'
   try clear c2
   try clear c2b0
   try clear c2b1
   try clear p2
   try clear c3
   obtain ⟨x5_1, x6_1, rfl, HA, HK1, HO_4, HO_5, HB⟩ := hrel
   cases gk with
   | zero => exact absurd HA.out (by simp [waterhourref04_Parse.l0])
   | succ k1 =>
    have H := HA.out
    clear HA
    simp only [waterhourref04_Parse.l0] at H
    by_cases c5 : x6_1 < (t336.length : Int)
    ·rw [if_pos c5] at H
     have c5b0 : decide (x6_1 < (t336.length : Int)) = true := decide_eq_true c5
     clear c5
     by_cases c6 : 0 ≤ x6_1
     ·rw [if_pos c6] at H
      have c6b0 : decide (0 ≤ x6_1) = true := decide_eq_true c6
      clear c6
      replace H := Option.bind_eq_some_iff.mp H
      obtain ⟨⟨t342, t343⟩, A70, H⟩ := H
      replace H : (if t343 = true then (if (t342.length : Int) = 2 then (waterhourref04_Parse.j1 k1 a0 t336 x5_1 x6_1 t342 false) else (waterhourref04_Parse.j1 k1 a0 t336 x5_1 x6_1 t342 ((t342.length : Int) != 4))) else (waterhourref04_Parse.j1 k1 a0 t336 x5_1 x6_1 t342 true)) = some (r1, r2) := H
      have A7 := a_ A70
      clear A70
      have HC8 := a_ H
      clear H
      obtain ⟨Ao9, co9, eo9⟩ := Kd.R_slice HO_4.out
      subst eo9
      have p341 : 0 ≤ (x6_1 : Int) := of_decide_eq_true (by first | (with_reducible assumption) | assumption)
      have q341 : x6_1 < (t336.length : Int) := of_decide_eq_true (by first | (with_reducible assumption) | assumption)
      obtain ⟨ad341, e341, hx341_0⟩ := Kd.at_string (Kd.R_reads' HO_4.out).2.2 x6_1 p341 q341
      cases e341
      replace p341 := eq_true p341
      replace q341 := eq_true q341
      go_upto_region 9 with (first | ((with_reducible refine gate_callee (f := 36) rfl ?_); refine goesL_ (some 28) rfl rfl Tryz.func36 (by kernel_rfl) rfl #[.string (rdOf ByteArray.empty t336 x6_1)] rfl tm_ ?_; (with_reducible refine (waterhourref04_numbers.calls k1 (rdOf ByteArray.empty t336 x6_1) t342 t343 _ A7.out).mono ?_); rintro e w10 ⟨v344, rfl, ho0, hb⟩; refine ⟨_, rfl, ?_⟩; have n0_ := a_ (Kd.R_below (rl_ HO_4.out) hb); have n1_ := a_ (Kd.R_below (rl_ HO_5.out) hb); have n2_ := a_ (Kd.R_lower ho0 (below_size bl_)); have n3_ := a_ (below_step bl_ hb); clear HO_4; clear HO_5; clear HB; have HO_4 := n0_; have HO_5 := n1_; have HO345 := n2_; have HB := n3_; clear n0_ n1_ n2_ n3_; (try clear hb); (try clear hb2); (try clear hk); (try clear hi); (try clear ho0)))
      (try simp only [Act.put, List.setIfInBounds_toArray, List.set_cons_zero, List.set_cons_succ])
      go_cut [42] (fun v42 wc => ∃ (kq : Nat) (x42_7 : Bool), v42 = .bool x42_7 ∧ Aside0 (waterhourref04_Parse.j1 kq a0 t336 x5_1 x6_1 t342 x42_7 = some (r1, r2)) ∧ Aside0 (kq ≤ k1) ∧ Aside0 (Kd.R Kd.string 9 wc w.heap.size (fun _ => True) (.slice (some ad341) t336.length co9) t336) ∧ Aside0 (Kd.R k37 37 wc w.heap.size (fun _ => True) u5 x5_1) ∧ Aside0 (Kd.R (Kd.int .i64) 3 wc w.heap.size (fun _ => True) v344 t342) ∧ Aside0 (Below w.heap.size w wc))
      case first =>
       have H := HC8.out
       clear HC8
       by_cases c11 : t343 = true
       ·subst c11
        have H1 : (if (t342.length : Int) = 2 then (waterhourref04_Parse.j1 k1 a0 t336 x5_1 x6_1 t342 false) else (waterhourref04_Parse.j1 k1 a0 t336 x5_1 x6_1 t342 ((t342.length : Int) != 4))) = some (r1, r2) := by rw [if_pos rfl] at H; exact H
        clear H
        have H := H1
        clear H1
        by_cases c12 : (t342.length : Int) = 2
        ·rw [if_pos c12] at H
         have c12b0 : ((t342.length : Int) == 2) = true := beq_iff_eq.mpr c12
         have c12b1 : ((t342.length : Int) != 2) = false := bne_eq_false_iff_eq.mpr c12
         clear c12
         (first | rw [c12b0] | (simp only [i64_w, i32_w]; rw [c12b0]) | skip)
         have H' := a_ H
         clear H
         obtain ⟨Ao13, co13, eo13⟩ := Kd.R_slice HO345.out
         subst eo13
         go_wp2
         go_meet
         case rel => exact ⟨_, (false), (by first | rfl | (simp; done) | (simp [*]; done)), H', ⟨by have := HK1.out; first | omega | exact Nat.le_refl _⟩, ⟨rl_ HO_4.out⟩, ⟨rl_ HO_5.out⟩, ⟨rl_ HO345.out⟩, ⟨bl_⟩⟩
        ·rw [if_neg c12] at H
         have c12b0 : ((t342.length : Int) == 2) = false := beq_eq_false_iff_ne.mpr c12
         have c12b1 : ((t342.length : Int) != 2) = true := bne_iff_ne.mpr c12
         (first | rw [c12b0] | (simp only [i64_w, i32_w]; rw [c12b0]) | skip)
         have H' := a_ H
         clear H
         obtain ⟨Ao14, co14, eo14⟩ := Kd.R_slice HO345.out
         subst eo14
         go_wp2
         go_meet
         case rel => exact ⟨_, (((t342.length : Int) != 4)), (by first | rfl | (simp; done) | (simp [*]; done)), H', ⟨by have := HK1.out; first | omega | exact Nat.le_refl _⟩, ⟨rl_ HO_4.out⟩, ⟨rl_ HO_5.out⟩, ⟨rl_ HO345.out⟩, ⟨bl_⟩⟩
       ·replace c11 := Bool.eq_false_iff.mpr c11
        subst c11
        have H1 : (waterhourref04_Parse.j1 k1 a0 t336 x5_1 x6_1 t342 true) = some (r1, r2) := by rw [if_neg (show ¬ (false = true) by decide)] at H; exact H
        clear H
        have H := H1
        clear H1
        have H' := a_ H
        clear H
        go_wp2
        go_meet
        case rel => exact ⟨_, (true), (by first | rfl | (simp; done) | (simp [*]; done)), H', ⟨by have := HK1.out; first | omega | exact Nat.le_refl _⟩, ⟨rl_ HO_4.out⟩, ⟨rl_ HO_5.out⟩, ⟨rl_ HO345.out⟩, ⟨bl_⟩⟩
      case rest =>
       clear HC8
       try clear c1
       try clear c2
       try clear c2b0
       try clear c2b1
       try clear p2
       try clear c3
       try clear p3
       try clear q3
       try clear hx3
       try clear c5
       try clear c5b0
       try clear c6
       try clear c6b0
       try clear c9
       try clear c11
       try clear c12
       try clear c12b0
       try clear c12b1
       try clear hx341_0
       try clear p2
       try clear p341
       try clear q341
       obtain ⟨kq, x42_7, rfl, HA, HJ7, HO_4, HO_5, HO_7, HB⟩ := hcut
       cases kq with
       | zero => exact absurd HA.out (by simp [waterhourref04_Parse.j1])
       | succ kj7 =>
        have H := HA.out
        clear HA
        simp only [waterhourref04_Parse.j1] at H
        by_cases c15 : x42_7 = true
        ·subst c15
         have H1 : (some (([] : List (S37)), 3)) = some (r1, r2) := by rw [if_pos rfl] at H; exact H
         clear H
         have H := H1
         clear H1
         simp only [Option.some.injEq, Prod.mk.injEq] at H
         obtain ⟨rfl, rfl⟩ := H
         go_wp2
         go_ret2
         exact ⟨_, by first | rfl | (simp [errW_none, errW_some] <;> rfl) | (simp [*, errW_none, errW_some] <;> rfl), by first | exact Kd.R_nil _ _ _ _ _ | exact Kd.N_nil _ _ _ _ _ | exact Kd.V_nil _ _ _ _ _ | exact Kd.Q_nil _ _ _ _ _ | exact Kd.S_nil _ _ _ _ _, bl_⟩
        ·replace c15 := Bool.eq_false_iff.mpr c15
         subst c15
         have H1 : (if 0 < (t342.length : Int) then (if 1 < (t342.length : Int) then (if (t342.length : Int) = 4 then (if 2 < (t342.length : Int) then (if 3 < (t342.length : Int) then (if x5_1.length < 4398046511104 then (waterhourref04_Parse.l0 kj7 a0 t336 (x5_1 ++ [(⟨(⟨rd t342 0, rd t342 1⟩ : S35), (⟨rd t342 2, rd t342 3⟩ : S35)⟩ : S37)]) (wrap64 (x6_1 + 1))) else (none)) else (none)) else (none)) else (if x5_1.length < 4398046511104 then (waterhourref04_Parse.l0 kj7 a0 t336 (x5_1 ++ [(⟨(⟨rd t342 0, rd t342 1⟩ : S35), (⟨1, 0⟩ : S35)⟩ : S37)]) (wrap64 (x6_1 + 1))) else (none))) else (none)) else (none)) = some (r1, r2) := by rw [if_neg (show ¬ (false = true) by decide)] at H; exact H
         clear H
         have H := H1
         clear H1
         by_cases c16 : 0 < (t342.length : Int)
         ·rw [if_pos c16] at H
          have c16b0 : decide (0 < (t342.length : Int)) = true := decide_eq_true c16
          have c16b1 : decide (0 < t342.length) = true := decide_eq_true (by omega)
          clear c16
          by_cases c17 : 1 < (t342.length : Int)
          ·rw [if_pos c17] at H
           have c17b0 : decide (1 < (t342.length : Int)) = true := decide_eq_true c17
           have c17b1 : decide (1 < t342.length) = true := decide_eq_true (by omega)
           clear c17
           by_cases c18 : (t342.length : Int) = 4
           ·rw [if_pos c18] at H
            have c18b0 : ((t342.length : Int) == 4) = true := beq_iff_eq.mpr c18
            have c18b1 : ((t342.length : Int) != 4) = false := bne_eq_false_iff_eq.mpr c18
            clear c18
            by_cases c19 : 2 < (t342.length : Int)
            ·rw [if_pos c19] at H
             have c19b0 : decide (2 < (t342.length : Int)) = true := decide_eq_true c19
             have c19b1 : decide (2 < t342.length) = true := decide_eq_true (by omega)
             clear c19
             by_cases c20 : 3 < (t342.length : Int)
             ·rw [if_pos c20] at H
              have c20b0 : decide (3 < (t342.length : Int)) = true := decide_eq_true c20
              have c20b1 : decide (3 < t342.length) = true := decide_eq_true (by omega)
              clear c20
              by_cases c21 : x5_1.length < 4398046511104
              ·rw [if_pos c21] at H
               have LMc21 := a_ c21
               clear c21
               obtain ⟨y351, hy351⟩ : ∃ y_ : List (S37), y_ = (x5_1 ++ [(⟨(⟨rd t342 0, rd t342 1⟩ : S35), (⟨rd t342 2, rd t342 3⟩ : S35)⟩ : S37)]) := ⟨_, rfl⟩
               replace H : (waterhourref04_Parse.l0 kj7 a0 t336 y351 (wrap64 (x6_1 + 1))) = some (r1, r2) := by first | (rw [hy351]; with_reducible exact H) | (have H2_ := (Option.bind_some _ _).symm.trans H; rw [hy351]; with_reducible exact H2_) | (have H2_ := (Option.bind_some _ _).symm.trans H; with_reducible exact H2_) | with_reducible exact H | (rw [hy351]; exact H) | exact H
               have Ny351 := a_ hy351
               clear hy351
               have H' := a_ H
               clear H
               try go_wp2
               have n0_ := a_ (Kd.R_drew HO_4.out)
               have n1_ := a_ (Kd.R_drew HO_5.out)
               have n2_ := a_ (Kd.R_drew HO_7.out)
               have n3_ := a_ (below_drew1 HB.out)
               clear HO_4
               clear HO_5
               clear HO_7
               clear HB
               have HO_4 := n0_
               have HO_5 := n1_
               have HO_7 := n2_
               have HB := n3_
               clear n0_ n1_ n2_ n3_
               obtain ⟨Ao23, co23, eo23⟩ := Kd.R_slice HO_7.out
               (first | subst eo23 | (injection eo23 with f1_ f2_ f3_; have f4_ := f1_.symm; have f5_ := f3_.symm; clear f1_ f2_ f3_; subst f4_; subst f5_))
               have p346 : 0 ≤ (0 : Int) := (by omega)
               have q346 : 0 < (t342.length : Int) := of_decide_eq_true (by first | (with_reducible assumption) | assumption)
               obtain ⟨ad346, e346, hx346_0⟩ := Kd.at_int (Kd.R_reads' HO_7.out).2.2 0 p346 q346
               cases e346
               have qi346 : (0 < t342.length) = True := eq_true (by omega)
               (try rw [show ((0 : Int)).toNat = 0 from rfl] at hx346_0)
               (try rw [Addr.add_zero'] at hx346_0)
               replace p346 := eq_true p346
               replace q346 := eq_true q346
               have p347 : 0 ≤ (1 : Int) := (by omega)
               have q347 : 1 < (t342.length : Int) := of_decide_eq_true (by first | (with_reducible assumption) | assumption)
               obtain ⟨ad347, e347, hx347_0⟩ := Kd.at_int (Kd.R_reads' HO_7.out).2.2 1 p347 q347
               obtain rfl : ad346 = ad347 := (by injection e347)
               (try simp only [show (1 : Int).toNat = 1 from rfl, Nat.reduceMul, Nat.reduceEqDiff, Go.Addr.add, ↓reduceIte] at hx347_0)
               have qi347 : (1 < t342.length) = True := eq_true (by omega)
               (try rw [show ((1 : Int)).toNat = 1 from rfl] at hx347_0)
               replace p347 := eq_true p347
               replace q347 := eq_true q347
               refine start_ (n := 11) (S := fun w' => w'.cell? ad346 = some (.int .i64 (rd t342 0)) ∧ w'.cell? ⟨ad346.block, ad346.off + 1, none⟩ = some (.int .i64 (rd t342 1))) (ds := []) #[false, false, false, false, false, false, false, false, false, false, false] (by kernel_rfl) rfl rfl ⟨hx346_0, hx347_0⟩ (fun hHeld => ?_); refine with_tabW waterhourref04_Parse.tab11 waterhourref04_Parse.bits11 (fun HT_ HW_ => ?_)
               generalize wc.drew = w22 at HO_4 HO_5 HO_7 HB hx346_0 hx347_0 hHeld ⊢
               refine pz_ 0 43 HT_ ?_
               refine pz_ 1 44 HT_ ?_
               refine pz_ 3 46 HT_ ?_
               refine pz_ 4 47 HT_ ?_
               refine pz_ 7 50 HT_ ?_
               refine take_ (i := 2) (N := some 45) (v := ?_) (a' := ?_) #[true, true, true, true, true, false, false, true, false, false, false] rfl rfl (take_ofW HT_.out HW_.out (by kernel_rfl)) (fun _ _ _ h => h) (Or.inl ⟨by rfl, ?_⟩) hHeld ?_ ?_
               rotate_left
               ·rintro w' ⟨s0, s1⟩
                go_simp
                with_reducible rfl
               rotate_left
               ·simp only [Act.put, List.setIfInBounds_toArray, List.set_cons_zero, List.set_cons_succ, i64_w, i32_w]
                rfl
               refine take_ (i := 5) (N := some 48) (v := ?_) (a' := ?_) #[true, true, true, true, true, true, false, true, false, false, false] rfl rfl (take_ofW HT_.out HW_.out (by kernel_rfl)) (fun _ _ _ h => h) (Or.inl ⟨by rfl, ?_⟩) hHeld ?_ ?_
               rotate_left
               ·rintro w' ⟨s0, s1⟩
                go_simp
                with_reducible rfl
               rotate_left
               ·simp only [Act.put, List.setIfInBounds_toArray, List.set_cons_zero, List.set_cons_succ, i64_w, i32_w]
                rfl
               refine pz_ 6 49 HT_ ?_
               refine pz_ 8 51 HT_ ?_
               refine one_ (i := 9) (N := some 9) #[true, true, true, true, true, true, true, true, true, true, false] rfl rfl (one_of HT_.out (by kernel_rfl)) (by decide) (fun K hK => ?_)
               refine box_step ?hg (N := 9) ?hd (cs := #[.int .i64 0, .int .i64 0, .int .i64 0, .int .i64 0]) (t := 37) ?hr ?_; (case hd => rfl); (case hg => rfl); (case hr => first | (go_simp; done) | (go_simp; rfl))
               intro gb348 hg w24 hbox hb
               have HS0_ := (hb.cell (World.block_lt_of_cell? _ _ (hHeld.1))).trans (hHeld.1)
               have HS1_ := (hb.cell (World.block_lt_of_cell? _ _ (hHeld.2))).trans (hHeld.2)
               have n0_ := a_ (Kd.R_below (rl_ HO_4.out) hb)
               have n1_ := a_ (Kd.R_below (Kd.R_elderB (rl_ HO_5.out) gb348 (Nat.le_of_eq hg.symm)) hb)
               have n2_ := a_ (Kd.R_below (rl_ HO_7.out) hb)
               have n3_ := a_ (below_step bl_ hb)
               have n4_ := a_ (hbox)
               have n5_ := a_ ((bz_ (w := w) hg))
               have n6_ := a_ ((bz_ (w := w) hg))
               clear HO_4
               clear HO_5
               clear HO_7
               clear HB
               have HO_4 := n0_
               have HO_5 := n1_
               have HO_7 := n2_
               have HB := n3_
               have BK348 := n4_
               have GW348 := n5_
               have GE348 := n6_
               clear n0_ n1_ n2_ n3_ n4_ n5_ n6_
               clear hb hbox hg
               refine hK.out _ _ ⟨HS0_, HS1_⟩ (fun hHeld => ?_)
               clear hK K
               refine norm_ (a' := ?_) ?_ ?_
               rotate_left
               ·show Act.put _ (some 9) _ = _
                simp only [Act.put, List.setIfInBounds_toArray, List.set_cons_zero, List.set_cons_succ, i64_w, i32_w]
                rfl
               refine one_ (i := 10) (N := none) #[true, true, true, true, true, true, true, true, true, true, true] rfl rfl (one_of HT_.out (by kernel_rfl)) (by decide) (fun K hK => ?_)
               have hs25 : w24.cell? ⟨gb348, 0, none⟩ = some (.int .i64 0) := (blk_cell BK348.out 0).trans rfl
               have hfs25 := blk_frozen BK348.out 0
               have hs26 : w24.cell? ⟨gb348, 1, none⟩ = some (.int .i64 0) := (blk_cell BK348.out 1).trans rfl
               have hfs26 := blk_frozen BK348.out 1
               have hs27 : w24.cell? ⟨gb348, 2, none⟩ = some (.int .i64 0) := (blk_cell BK348.out 2).trans rfl
               have hfs27 := blk_frozen BK348.out 2
               have hs28 : w24.cell? ⟨gb348, 3, none⟩ = some (.int .i64 0) := (blk_cell BK348.out 3).trans rfl
               have hfs28 := blk_frozen BK348.out 3
               refine skip_ (w1 := ?_) (by rfl) rfl ?_ ?_
               rotate_left
               ·go_simp
                rfl
               refine hK.out _ _ ⟨((cell_far (p := ⟨gb348, _, none⟩) (by first | exact Kd.own_blk (Kd.R_ne HO_7.out BK348.out (by decide)) | (rw [add_block]; exact Kd.own_blk (Kd.R_ne HO_7.out BK348.out (by decide))) | (show (Addr.add _ _).block ≠ _; rw [add_block]; exact Kd.own_blk (Kd.R_ne HO_7.out BK348.out (by decide))) | (dsimp only; exact Kd.own_blk (Kd.R_ne HO_7.out BK348.out (by decide)))) _).trans (((cell_far (p := ⟨gb348, _, none⟩) (by first | exact Kd.own_blk (Kd.R_ne HO_7.out BK348.out (by decide)) | (rw [add_block]; exact Kd.own_blk (Kd.R_ne HO_7.out BK348.out (by decide))) | (show (Addr.add _ _).block ≠ _; rw [add_block]; exact Kd.own_blk (Kd.R_ne HO_7.out BK348.out (by decide))) | (dsimp only; exact Kd.own_blk (Kd.R_ne HO_7.out BK348.out (by decide)))) _).trans (((cell_far (p := ⟨gb348, _, none⟩) (by first | exact Kd.own_blk (Kd.R_ne HO_7.out BK348.out (by decide)) | (rw [add_block]; exact Kd.own_blk (Kd.R_ne HO_7.out BK348.out (by decide))) | (show (Addr.add _ _).block ≠ _; rw [add_block]; exact Kd.own_blk (Kd.R_ne HO_7.out BK348.out (by decide))) | (dsimp only; exact Kd.own_blk (Kd.R_ne HO_7.out BK348.out (by decide)))) _).trans (((cell_far (p := ⟨gb348, _, none⟩) (by first | exact Kd.own_blk (Kd.R_ne HO_7.out BK348.out (by decide)) | (rw [add_block]; exact Kd.own_blk (Kd.R_ne HO_7.out BK348.out (by decide))) | (show (Addr.add _ _).block ≠ _; rw [add_block]; exact Kd.own_blk (Kd.R_ne HO_7.out BK348.out (by decide))) | (dsimp only; exact Kd.own_blk (Kd.R_ne HO_7.out BK348.out (by decide)))) _).trans (hHeld.1)))))))), ((cell_far (p := ⟨gb348, _, none⟩) (by first | exact Kd.own_blk (Kd.R_ne HO_7.out BK348.out (by decide)) | (rw [add_block]; exact Kd.own_blk (Kd.R_ne HO_7.out BK348.out (by decide))) | (show (Addr.add _ _).block ≠ _; rw [add_block]; exact Kd.own_blk (Kd.R_ne HO_7.out BK348.out (by decide))) | (dsimp only; exact Kd.own_blk (Kd.R_ne HO_7.out BK348.out (by decide)))) _).trans (((cell_far (p := ⟨gb348, _, none⟩) (by first | exact Kd.own_blk (Kd.R_ne HO_7.out BK348.out (by decide)) | (rw [add_block]; exact Kd.own_blk (Kd.R_ne HO_7.out BK348.out (by decide))) | (show (Addr.add _ _).block ≠ _; rw [add_block]; exact Kd.own_blk (Kd.R_ne HO_7.out BK348.out (by decide))) | (dsimp only; exact Kd.own_blk (Kd.R_ne HO_7.out BK348.out (by decide)))) _).trans (((cell_far (p := ⟨gb348, _, none⟩) (by first | exact Kd.own_blk (Kd.R_ne HO_7.out BK348.out (by decide)) | (rw [add_block]; exact Kd.own_blk (Kd.R_ne HO_7.out BK348.out (by decide))) | (show (Addr.add _ _).block ≠ _; rw [add_block]; exact Kd.own_blk (Kd.R_ne HO_7.out BK348.out (by decide))) | (dsimp only; exact Kd.own_blk (Kd.R_ne HO_7.out BK348.out (by decide)))) _).trans (((cell_far (p := ⟨gb348, _, none⟩) (by first | exact Kd.own_blk (Kd.R_ne HO_7.out BK348.out (by decide)) | (rw [add_block]; exact Kd.own_blk (Kd.R_ne HO_7.out BK348.out (by decide))) | (show (Addr.add _ _).block ≠ _; rw [add_block]; exact Kd.own_blk (Kd.R_ne HO_7.out BK348.out (by decide))) | (dsimp only; exact Kd.own_blk (Kd.R_ne HO_7.out BK348.out (by decide)))) _).trans (hHeld.2))))))))⟩ (fun hHeld => ?_)
               clear hK K
               refine done_ (done_of HT_.out (by kernel_rfl)) ?_
               try go_wp2
               have n0_ : Aside0 (Kd.R Kd.string 9 ((((w24.setCell ⟨gb348, 0, none⟩ (.int .i64 (rd t342 0))).setCell ⟨gb348, 1, none⟩ (.int .i64 (rd t342 1))).setCell ⟨gb348, 2, none⟩ (.int .i64 1)).setCell ⟨gb348, 3, none⟩ (.int .i64 0)) w.heap.size (fun _ => True) (.slice (some ad341) t336.length co9) t336) := ⟨by (with_reducible repeat (first | apply Kd.R_alloc | apply Kd.R_drewN | apply Kd.R_drew)); exact Kd.R_mono (Kd.R_far (p := ⟨gb348, 3, none⟩) (Kd.R_far (p := ⟨gb348, 2, none⟩) (Kd.R_far (p := ⟨gb348, 1, none⟩) (Kd.R_far (p := ⟨gb348, 0, none⟩) (Kd.R_types HO_4.out BK348.out (by decide)) (fun _ hk => hk.2) (.int .i64 (rd t342 0))) (fun _ hk => hk.2) (.int .i64 (rd t342 1))) (fun _ hk => hk.2) (.int .i64 1)) (fun _ hk => hk.2) (.int .i64 0)) (fun _ hk => trivial)⟩
               have n1_ : Aside0 (Kd.R k37 37 ((((w24.setCell ⟨gb348, 0, none⟩ (.int .i64 (rd t342 0))).setCell ⟨gb348, 1, none⟩ (.int .i64 (rd t342 1))).setCell ⟨gb348, 2, none⟩ (.int .i64 1)).setCell ⟨gb348, 3, none⟩ (.int .i64 0)) w.heap.size (fun k_ => k_ ≠ gb348) u5 x5_1) := ⟨by (with_reducible repeat (first | apply Kd.R_alloc | apply Kd.R_drewN | apply Kd.R_drew)); exact Kd.R_mono (Kd.R_far (p := ⟨gb348, 3, none⟩) (Kd.R_far (p := ⟨gb348, 2, none⟩) (Kd.R_far (p := ⟨gb348, 1, none⟩) (Kd.R_far (p := ⟨gb348, 0, none⟩) (Kd.R_mono HO_5.out (fun k_ hk => (⟨hk, hk.2⟩ : _ ∧ k_ ≠ gb348))) (fun _ hk => hk.2) (.int .i64 (rd t342 0))) (fun _ hk => hk.2) (.int .i64 (rd t342 1))) (fun _ hk => hk.2) (.int .i64 1)) (fun _ hk => hk.2) (.int .i64 0)) (fun _ hk => hk.1.2)⟩
               have n2_ : Aside0 (Kd.R (Kd.int .i64) 3 ((((w24.setCell ⟨gb348, 0, none⟩ (.int .i64 (rd t342 0))).setCell ⟨gb348, 1, none⟩ (.int .i64 (rd t342 1))).setCell ⟨gb348, 2, none⟩ (.int .i64 1)).setCell ⟨gb348, 3, none⟩ (.int .i64 0)) w.heap.size (fun _ => True) (.slice (some ad346) t342.length co23) t342) := ⟨by (with_reducible repeat (first | apply Kd.R_alloc | apply Kd.R_drewN | apply Kd.R_drew)); exact Kd.R_mono (Kd.R_far (p := ⟨gb348, 3, none⟩) (Kd.R_far (p := ⟨gb348, 2, none⟩) (Kd.R_far (p := ⟨gb348, 1, none⟩) (Kd.R_far (p := ⟨gb348, 0, none⟩) (Kd.R_types HO_7.out BK348.out (by decide)) (fun _ hk => hk.2) (.int .i64 (rd t342 0))) (fun _ hk => hk.2) (.int .i64 (rd t342 1))) (fun _ hk => hk.2) (.int .i64 1)) (fun _ hk => hk.2) (.int .i64 0)) (fun _ hk => trivial)⟩
               have n3_ : Aside0 (((((w24.setCell ⟨gb348, 0, none⟩ (.int .i64 (rd t342 0))).setCell ⟨gb348, 1, none⟩ (.int .i64 (rd t342 1))).setCell ⟨gb348, 2, none⟩ (.int .i64 1)).setCell ⟨gb348, 3, none⟩ (.int .i64 0)).heap[gb348]? = some (.cells #[.int .i64 (rd t342 0), .int .i64 (rd t342 1), .int .i64 1, .int .i64 0] 37 (0, 0))) := ⟨by (with_reducible repeat (first | refine blk_drewN ?_ _ | refine blk_drew ?_ | refine blk_alloc ?_ _)); refine blk_put (cs := #[.int .i64 (rd t342 0), .int .i64 (rd t342 1), .int .i64 1, .int .i64 0]) ?_ 3 _ rfl; (with_reducible repeat (first | refine blk_drewN ?_ _ | refine blk_drew ?_ | refine blk_alloc ?_ _)); refine blk_put (cs := #[.int .i64 (rd t342 0), .int .i64 (rd t342 1), .int .i64 0, .int .i64 0]) ?_ 2 _ rfl; (with_reducible repeat (first | refine blk_drewN ?_ _ | refine blk_drew ?_ | refine blk_alloc ?_ _)); refine blk_put (cs := #[.int .i64 (rd t342 0), .int .i64 0, .int .i64 0, .int .i64 0]) ?_ 1 _ rfl; (with_reducible repeat (first | refine blk_drewN ?_ _ | refine blk_drew ?_ | refine blk_alloc ?_ _)); refine blk_put (cs := #[.int .i64 0, .int .i64 0, .int .i64 0, .int .i64 0]) ?_ 0 _ rfl; (with_reducible repeat (first | refine blk_drewN ?_ _ | refine blk_drew ?_ | refine blk_alloc ?_ _)); exact BK348.out⟩
               have n4_ : Aside0 (Below w.heap.size w ((((w24.setCell ⟨gb348, 0, none⟩ (.int .i64 (rd t342 0))).setCell ⟨gb348, 1, none⟩ (.int .i64 (rd t342 1))).setCell ⟨gb348, 2, none⟩ (.int .i64 1)).setCell ⟨gb348, 3, none⟩ (.int .i64 0))) := ⟨bl_⟩
               (try clear HO_4)
               (try clear HO_5)
               (try clear HO_7)
               (try clear BK348)
               (try clear HB)
               generalize ((((w24.setCell ⟨gb348, 0, none⟩ (.int .i64 (rd t342 0))).setCell ⟨gb348, 1, none⟩ (.int .i64 (rd t342 1))).setCell ⟨gb348, 2, none⟩ (.int .i64 1)).setCell ⟨gb348, 3, none⟩ (.int .i64 0)) = w29 at n0_ n1_ n2_ n3_ n4_ ⊢
               have HO_4 := n0_
               have HO_5 := n1_
               have HO_7 := n2_
               have BK348 := n3_
               have HB := n4_
               clear n0_ n1_ n2_ n3_ n4_
               have n0_ := a_ (Kd.R_drew HO_4.out)
               have n1_ := a_ (Kd.R_drew HO_5.out)
               have n2_ := a_ (Kd.R_drew HO_7.out)
               have n3_ := a_ (blk_drew BK348.out)
               have n4_ := a_ (below_drew1 HB.out)
               clear HO_4
               clear HO_5
               clear HO_7
               clear BK348
               clear HB
               have HO_4 := n0_
               have HO_5 := n1_
               have HO_7 := n2_
               have BK348 := n3_
               have HB := n4_
               clear n0_ n1_ n2_ n3_ n4_
               have p349 : 0 ≤ (2 : Int) := (by omega)
               have q349 : 2 < (t342.length : Int) := of_decide_eq_true (by first | (with_reducible assumption) | assumption)
               obtain ⟨ad349, e349, hx349_0⟩ := Kd.at_int (Kd.R_reads' HO_7.out).2.2 2 p349 q349
               obtain rfl : ad346 = ad349 := (by injection e349)
               (try simp only [show (2 : Int).toNat = 2 from rfl, Nat.reduceMul, Nat.reduceEqDiff, Go.Addr.add, ↓reduceIte] at hx349_0)
               have qi349 : (2 < t342.length) = True := eq_true (by omega)
               (try rw [show ((2 : Int)).toNat = 2 from rfl] at hx349_0)
               replace p349 := eq_true p349
               replace q349 := eq_true q349
               have p350 : 0 ≤ (3 : Int) := (by omega)
               have q350 : 3 < (t342.length : Int) := of_decide_eq_true (by first | (with_reducible assumption) | assumption)
               obtain ⟨ad350, e350, hx350_0⟩ := Kd.at_int (Kd.R_reads' HO_7.out).2.2 3 p350 q350
               obtain rfl : ad346 = ad350 := (by injection e350)
               (try simp only [show (3 : Int).toNat = 3 from rfl, Nat.reduceMul, Nat.reduceEqDiff, Go.Addr.add, ↓reduceIte] at hx350_0)
               have qi350 : (3 < t342.length) = True := eq_true (by omega)
               (try rw [show ((3 : Int)).toNat = 3 from rfl] at hx350_0)
               replace p350 := eq_true p350
               replace q350 := eq_true q350
               refine start_ (n := 9) (S := fun w' => w'.cell? ⟨ad346.block, ad346.off + 2, none⟩ = some (.int .i64 (rd t342 2)) ∧ w'.cell? ⟨ad346.block, ad346.off + 3, none⟩ = some (.int .i64 (rd t342 3))) (ds := []) #[false, false, false, false, false, false, false, false, false] (by kernel_rfl) rfl rfl ⟨hx349_0, hx350_0⟩ (fun hHeld => ?_); refine with_tabW waterhourref04_Parse.tab13 waterhourref04_Parse.bits13 (fun HT_ HW_ => ?_)
               generalize w29.drew = w30 at HO_4 HO_5 HO_7 BK348 HB hx349_0 hx350_0 hHeld ⊢
               refine pz_ 0 55 HT_ ?_
               refine pz_ 1 56 HT_ ?_
               refine pz_ 3 58 HT_ ?_
               refine pz_ 4 59 HT_ ?_
               refine take_ (i := 2) (N := some 57) (v := ?_) (a' := ?_) #[true, true, true, true, true, false, false, false, false] rfl rfl (take_ofW HT_.out HW_.out (by kernel_rfl)) (fun _ _ _ h => h) (Or.inl ⟨by rfl, ?_⟩) hHeld ?_ ?_
               rotate_left
               ·rintro w' ⟨s0, s1⟩
                go_simp
                with_reducible rfl
               rotate_left
               ·simp only [Act.put, List.setIfInBounds_toArray, List.set_cons_zero, List.set_cons_succ, i64_w, i32_w]
                rfl
               refine take_ (i := 5) (N := some 60) (v := ?_) (a' := ?_) #[true, true, true, true, true, true, false, false, false] rfl rfl (take_ofW HT_.out HW_.out (by kernel_rfl)) (fun _ _ _ h => h) (Or.inl ⟨by rfl, ?_⟩) hHeld ?_ ?_
               rotate_left
               ·rintro w' ⟨s0, s1⟩
                go_simp
                with_reducible rfl
               rotate_left
               ·simp only [Act.put, List.setIfInBounds_toArray, List.set_cons_zero, List.set_cons_succ, i64_w, i32_w]
                rfl
               refine pz_ 6 61 HT_ ?_
               refine pz_ 7 62 HT_ ?_
               refine one_ (i := 8) (N := none) #[true, true, true, true, true, true, true, true, true] rfl rfl (one_of HT_.out (by kernel_rfl)) (by decide) (fun K hK => ?_)
               have hs31 : w30.cell? ⟨gb348, 2, none⟩ = some (.int .i64 1) := (blk_cell BK348.out 2).trans rfl
               have hfs31 := blk_frozen BK348.out 2
               have hs32 : w30.cell? ⟨gb348, 3, none⟩ = some (.int .i64 0) := (blk_cell BK348.out 3).trans rfl
               have hfs32 := blk_frozen BK348.out 3
               refine skip_ (w1 := ?_) (by rfl) rfl ?_ ?_
               rotate_left
               ·go_simp
                rfl
               refine hK.out _ _ ⟨((cell_far (p := ⟨gb348, _, none⟩) (by first | exact Kd.own_blk (Kd.R_ne HO_7.out BK348.out (by decide)) | (rw [add_block]; exact Kd.own_blk (Kd.R_ne HO_7.out BK348.out (by decide))) | (show (Addr.add _ _).block ≠ _; rw [add_block]; exact Kd.own_blk (Kd.R_ne HO_7.out BK348.out (by decide))) | (dsimp only; exact Kd.own_blk (Kd.R_ne HO_7.out BK348.out (by decide)))) _).trans (((cell_far (p := ⟨gb348, _, none⟩) (by first | exact Kd.own_blk (Kd.R_ne HO_7.out BK348.out (by decide)) | (rw [add_block]; exact Kd.own_blk (Kd.R_ne HO_7.out BK348.out (by decide))) | (show (Addr.add _ _).block ≠ _; rw [add_block]; exact Kd.own_blk (Kd.R_ne HO_7.out BK348.out (by decide))) | (dsimp only; exact Kd.own_blk (Kd.R_ne HO_7.out BK348.out (by decide)))) _).trans (hHeld.1)))), ((cell_far (p := ⟨gb348, _, none⟩) (by first | exact Kd.own_blk (Kd.R_ne HO_7.out BK348.out (by decide)) | (rw [add_block]; exact Kd.own_blk (Kd.R_ne HO_7.out BK348.out (by decide))) | (show (Addr.add _ _).block ≠ _; rw [add_block]; exact Kd.own_blk (Kd.R_ne HO_7.out BK348.out (by decide))) | (dsimp only; exact Kd.own_blk (Kd.R_ne HO_7.out BK348.out (by decide)))) _).trans (((cell_far (p := ⟨gb348, _, none⟩) (by first | exact Kd.own_blk (Kd.R_ne HO_7.out BK348.out (by decide)) | (rw [add_block]; exact Kd.own_blk (Kd.R_ne HO_7.out BK348.out (by decide))) | (show (Addr.add _ _).block ≠ _; rw [add_block]; exact Kd.own_blk (Kd.R_ne HO_7.out BK348.out (by decide))) | (dsimp only; exact Kd.own_blk (Kd.R_ne HO_7.out BK348.out (by decide)))) _).trans (hHeld.2))))⟩ (fun hHeld => ?_)
               clear hK K
               refine done_ (done_of HT_.out (by kernel_rfl)) ?_
               have hcz33_0 : w30.cell? ⟨gb348, 0, none⟩ = some (.int .i64 (rd t342 0)) := (blk_cell BK348.out 0).trans rfl
               have hcz33_1 : w30.cell? ⟨gb348, 1, none⟩ = some (.int .i64 (rd t342 1)) := (blk_cell BK348.out 1).trans rfl
               have hcz33_2 : w30.cell? ⟨gb348, 2, none⟩ = some (.int .i64 1) := (blk_cell BK348.out 2).trans rfl
               have hcz33_3 : w30.cell? ⟨gb348, 3, none⟩ = some (.int .i64 0) := (blk_cell BK348.out 3).trans rfl
               have hfz33_0 := blk_frozen BK348.out 0
               have hfz33_1 := blk_frozen BK348.out 1
               have hfz33_2 := blk_frozen BK348.out 2
               have hfz33_3 := blk_frozen BK348.out 3
               try go_wp2_with (first | ((with_reducible refine gate_builtin (b := .append) (xs := #[.tmp 63, .tmp 65]) rfl ?_); (try (refine gate_guard (by rfl) ?_; dsimp only)); at_builtin; refine Kd.R_append k37 (w0 := w) w.heap.size rfl (.tmp 63) (.tmp 65) 23 37 (.agg #[(.int .i64 0), (.int .i64 0), (.int .i64 0), (.int .i64 0)]) 32 rfl Tryz.underlying23 info37 rfl (by decide) (by omega) u5 x5_1 (⟨(⟨rd t342 0, rd t342 1⟩ : S35), (⟨rd t342 2, rd t342 3⟩ : S35)⟩ : S37) [.int .i64 (rd t342 0), .int .i64 (rd t342 1), .int .i64 (rd t342 2), .int .i64 (rd t342 3)] (fun k_ => k_ ≠ gb348) (fun _ => False) rfl (by first | (go_simp; done) | (go_simp; rfl)) ?aP (fun _ hk => hk.elim) ?aF ?aO ?aB ?aS ?aL ?_; (case aP => exact k37_mkM _ _ _ (⟨(⟨rd t342 0, rd t342 1⟩ : S35), (⟨rd t342 2, rd t342 3⟩ : S35)⟩ : S37)); (case aB => exact bl_); (case aF => exact (fun k_ hk => Kd.freshB (g := gb348) (o := .cells #[.int .i64 (rd t342 0), .int .i64 (rd t342 1), .int .i64 (rd t342 2), .int .i64 (rd t342 3)] 37 (0, 0)) (by (with_reducible repeat (first | refine blk_drewN ?_ _ | refine blk_drew ?_ | refine blk_alloc ?_ _)); refine blk_put (cs := #[.int .i64 (rd t342 0), .int .i64 (rd t342 1), .int .i64 (rd t342 2), .int .i64 0]) ?_ 3 _ rfl; (with_reducible repeat (first | refine blk_drewN ?_ _ | refine blk_drew ?_ | refine blk_alloc ?_ _)); refine blk_put (cs := #[.int .i64 (rd t342 0), .int .i64 (rd t342 1), .int .i64 1, .int .i64 0]) ?_ 2 _ rfl; (with_reducible repeat (first | refine blk_drewN ?_ _ | refine blk_drew ?_ | refine blk_alloc ?_ _)); exact BK348.out) k_ hk)); (case aO => exact (by (with_reducible repeat (first | apply Kd.R_alloc | apply Kd.R_drewN | apply Kd.R_drew)); exact Kd.R_mono (Kd.R_far (p := ⟨gb348, 3, none⟩) (Kd.R_far (p := ⟨gb348, 2, none⟩) (Kd.R_mono HO_5.out (fun k_ hk => (⟨hk, hk⟩ : _ ∧ k_ ≠ gb348))) (fun _ hk => hk.2) (.int .i64 (rd t342 2))) (fun _ hk => hk.2) (.int .i64 (rd t342 3))) (fun _ hk => hk.1))); (case aS => exact (below_size bl_)); (case aL => have := LMc21.out; omega); intro v352 w34 ho hb hg hat; rw [← Ny351.out] at ho; have n0_ := a_ (Kd.R_over' (by (with_reducible repeat (first | apply Kd.R_alloc | apply Kd.R_drewN | apply Kd.R_drew)); exact (Kd.R_mono (Kd.R_far (p := ⟨gb348, 3, none⟩) (Kd.R_far (p := ⟨gb348, 2, none⟩) (Kd.R_types HO_4.out BK348.out (by decide)) (fun _ hk => hk.2) (.int .i64 (rd t342 2))) (fun _ hk => hk.2) (.int .i64 (rd t342 3))) (fun _ h_ => h_.1))) (Kd.R_typed (by (with_reducible repeat (first | apply Kd.R_alloc | apply Kd.R_drewN | apply Kd.R_drew)); exact (Kd.R_mono (Kd.R_far (p := ⟨gb348, 3, none⟩) (Kd.R_far (p := ⟨gb348, 2, none⟩) (Kd.R_mono HO_5.out (fun k_ hk => (⟨hk, hk⟩ : _ ∧ k_ ≠ gb348))) (fun _ hk => hk.2) (.int .i64 (rd t342 2))) (fun _ hk => hk.2) (.int .i64 (rd t342 3))) (fun _ h_ => h_.1)))) (by decide) hg); have n1_ := a_ (Kd.R_over' (by (with_reducible repeat (first | apply Kd.R_alloc | apply Kd.R_drewN | apply Kd.R_drew)); exact (Kd.R_mono (Kd.R_far (p := ⟨gb348, 3, none⟩) (Kd.R_far (p := ⟨gb348, 2, none⟩) (Kd.R_types HO_7.out BK348.out (by decide)) (fun _ hk => hk.2) (.int .i64 (rd t342 2))) (fun _ hk => hk.2) (.int .i64 (rd t342 3))) (fun _ h_ => h_.1))) (Kd.R_typed (by (with_reducible repeat (first | apply Kd.R_alloc | apply Kd.R_drewN | apply Kd.R_drew)); exact (Kd.R_mono (Kd.R_far (p := ⟨gb348, 3, none⟩) (Kd.R_far (p := ⟨gb348, 2, none⟩) (Kd.R_mono HO_5.out (fun k_ hk => (⟨hk, hk⟩ : _ ∧ k_ ≠ gb348))) (fun _ hk => hk.2) (.int .i64 (rd t342 2))) (fun _ hk => hk.2) (.int .i64 (rd t342 3))) (fun _ h_ => h_.1)))) (by decide) hg); have n2_ := a_ (blk_grown (g := gb348) (o := .cells #[.int .i64 (rd t342 0), .int .i64 (rd t342 1), .int .i64 (rd t342 2), .int .i64 (rd t342 3)] 37 (0, 0)) (by (with_reducible repeat (first | refine blk_drewN ?_ _ | refine blk_drew ?_ | refine blk_alloc ?_ _)); refine blk_put (cs := #[.int .i64 (rd t342 0), .int .i64 (rd t342 1), .int .i64 (rd t342 2), .int .i64 0]) ?_ 3 _ rfl; (with_reducible repeat (first | refine blk_drewN ?_ _ | refine blk_drew ?_ | refine blk_alloc ?_ _)); refine blk_put (cs := #[.int .i64 (rd t342 0), .int .i64 (rd t342 1), .int .i64 1, .int .i64 0]) ?_ 2 _ rfl; (with_reducible repeat (first | refine blk_drewN ?_ _ | refine blk_drew ?_ | refine blk_alloc ?_ _)); exact BK348.out) hg (Kd.R_away HO_5.out (fun _ hk => hk))); have n3_ := a_ (hb); have n4_ := a_ (ho); clear HO_4; clear HO_7; clear BK348; clear HB; clear HO_5; have HO_4 := n0_; have HO_7 := n1_; have BK348 := n2_; have HB := n3_; have HO353 := n4_; clear n0_ n1_ n2_ n3_ n4_; clear ho hb hg hat))
               go_roundg kj7
               case measure => have := HK1.out; have := HJ7.out; omega
               case rel => exact ⟨(y351), (wrap64 (x6_1 + 1)), (by first | rfl | (simp; done) | (simp [*]; done)), H', ⟨by have := HK1.out; have := HJ7.out; omega⟩, ⟨rl_ HO_4.out⟩, ⟨rl_ (Kd.R_mono HO353.out (fun _ hk => trivial))⟩, ⟨bl_⟩⟩
              ·rw [if_neg c21] at H
               exact absurd H (by simp)
             ·rw [if_neg c20] at H
              exact absurd H (by simp)
            ·rw [if_neg c19] at H
             exact absurd H (by simp)
           ·rw [if_neg c18] at H
            have c18b0 : ((t342.length : Int) == 4) = false := beq_eq_false_iff_ne.mpr c18
            have c18b1 : ((t342.length : Int) != 4) = true := bne_iff_ne.mpr c18
            by_cases c35 : x5_1.length < 4398046511104
            ·rw [if_pos c35] at H
             have LMc35 := a_ c35
             clear c35
             obtain ⟨y354, hy354⟩ : ∃ y_ : List (S37), y_ = (x5_1 ++ [(⟨(⟨rd t342 0, rd t342 1⟩ : S35), (⟨1, 0⟩ : S35)⟩ : S37)]) := ⟨_, rfl⟩
             replace H : (waterhourref04_Parse.l0 kj7 a0 t336 y354 (wrap64 (x6_1 + 1))) = some (r1, r2) := by first | (rw [hy354]; with_reducible exact H) | (have H2_ := (Option.bind_some _ _).symm.trans H; rw [hy354]; with_reducible exact H2_) | (have H2_ := (Option.bind_some _ _).symm.trans H; with_reducible exact H2_) | with_reducible exact H | (rw [hy354]; exact H) | exact H
             have Ny354 := a_ hy354
             clear hy354
             have H' := a_ H
             clear H
             try go_wp2
             have n0_ := a_ (Kd.R_drew HO_4.out)
             have n1_ := a_ (Kd.R_drew HO_5.out)
             have n2_ := a_ (Kd.R_drew HO_7.out)
             have n3_ := a_ (below_drew1 HB.out)
             clear HO_4
             clear HO_5
             clear HO_7
             clear HB
             have HO_4 := n0_
             have HO_5 := n1_
             have HO_7 := n2_
             have HB := n3_
             clear n0_ n1_ n2_ n3_
             obtain ⟨Ao37, co37, eo37⟩ := Kd.R_slice HO_7.out
             (first | subst eo37 | (injection eo37 with f1_ f2_ f3_; have f4_ := f1_.symm; have f5_ := f3_.symm; clear f1_ f2_ f3_; subst f4_; subst f5_))
             have p346 : 0 ≤ (0 : Int) := (by omega)
             have q346 : 0 < (t342.length : Int) := of_decide_eq_true (by first | (with_reducible assumption) | assumption)
             obtain ⟨ad346, e346, hx346_0⟩ := Kd.at_int (Kd.R_reads' HO_7.out).2.2 0 p346 q346
             cases e346
             have qi346 : (0 < t342.length) = True := eq_true (by omega)
             (try rw [show ((0 : Int)).toNat = 0 from rfl] at hx346_0)
             (try rw [Addr.add_zero'] at hx346_0)
             replace p346 := eq_true p346
             replace q346 := eq_true q346
             have p347 : 0 ≤ (1 : Int) := (by omega)
             have q347 : 1 < (t342.length : Int) := of_decide_eq_true (by first | (with_reducible assumption) | assumption)
             obtain ⟨ad347, e347, hx347_0⟩ := Kd.at_int (Kd.R_reads' HO_7.out).2.2 1 p347 q347
             obtain rfl : ad346 = ad347 := (by injection e347)
             (try simp only [show (1 : Int).toNat = 1 from rfl, Nat.reduceMul, Nat.reduceEqDiff, Go.Addr.add, ↓reduceIte] at hx347_0)
             have qi347 : (1 < t342.length) = True := eq_true (by omega)
             (try rw [show ((1 : Int)).toNat = 1 from rfl] at hx347_0)
             replace p347 := eq_true p347
             replace q347 := eq_true q347
             refine start_ (n := 11) (S := fun w' => w'.cell? ad346 = some (.int .i64 (rd t342 0)) ∧ w'.cell? ⟨ad346.block, ad346.off + 1, none⟩ = some (.int .i64 (rd t342 1))) (ds := []) #[false, false, false, false, false, false, false, false, false, false, false] (by kernel_rfl) rfl rfl ⟨hx346_0, hx347_0⟩ (fun hHeld => ?_); refine with_tabW waterhourref04_Parse.tab11 waterhourref04_Parse.bits11 (fun HT_ HW_ => ?_)
             generalize wc.drew = w36 at HO_4 HO_5 HO_7 HB hx346_0 hx347_0 hHeld ⊢
             refine pz_ 0 43 HT_ ?_
             refine pz_ 1 44 HT_ ?_
             refine pz_ 3 46 HT_ ?_
             refine pz_ 4 47 HT_ ?_
             refine pz_ 7 50 HT_ ?_
             refine take_ (i := 2) (N := some 45) (v := ?_) (a' := ?_) #[true, true, true, true, true, false, false, true, false, false, false] rfl rfl (take_ofW HT_.out HW_.out (by kernel_rfl)) (fun _ _ _ h => h) (Or.inl ⟨by rfl, ?_⟩) hHeld ?_ ?_
             rotate_left
             ·rintro w' ⟨s0, s1⟩
              go_simp
              with_reducible rfl
             rotate_left
             ·simp only [Act.put, List.setIfInBounds_toArray, List.set_cons_zero, List.set_cons_succ, i64_w, i32_w]
              rfl
             refine take_ (i := 5) (N := some 48) (v := ?_) (a' := ?_) #[true, true, true, true, true, true, false, true, false, false, false] rfl rfl (take_ofW HT_.out HW_.out (by kernel_rfl)) (fun _ _ _ h => h) (Or.inl ⟨by rfl, ?_⟩) hHeld ?_ ?_
             rotate_left
             ·rintro w' ⟨s0, s1⟩
              go_simp
              with_reducible rfl
             rotate_left
             ·simp only [Act.put, List.setIfInBounds_toArray, List.set_cons_zero, List.set_cons_succ, i64_w, i32_w]
              rfl
             refine pz_ 6 49 HT_ ?_
             refine pz_ 8 51 HT_ ?_
             refine one_ (i := 9) (N := some 9) #[true, true, true, true, true, true, true, true, true, true, false] rfl rfl (one_of HT_.out (by kernel_rfl)) (by decide) (fun K hK => ?_)
             refine box_step ?hg (N := 9) ?hd (cs := #[.int .i64 0, .int .i64 0, .int .i64 0, .int .i64 0]) (t := 37) ?hr ?_; (case hd => rfl); (case hg => rfl); (case hr => first | (go_simp; done) | (go_simp; rfl))
             intro gb348 hg w38 hbox hb
             have HS0_ := (hb.cell (World.block_lt_of_cell? _ _ (hHeld.1))).trans (hHeld.1)
             have HS1_ := (hb.cell (World.block_lt_of_cell? _ _ (hHeld.2))).trans (hHeld.2)
             have n0_ := a_ (Kd.R_below (rl_ HO_4.out) hb)
             have n1_ := a_ (Kd.R_below (Kd.R_elderB (rl_ HO_5.out) gb348 (Nat.le_of_eq hg.symm)) hb)
             have n2_ := a_ (Kd.R_below (rl_ HO_7.out) hb)
             have n3_ := a_ (below_step bl_ hb)
             have n4_ := a_ (hbox)
             have n5_ := a_ ((bz_ (w := w) hg))
             have n6_ := a_ ((bz_ (w := w) hg))
             clear HO_4
             clear HO_5
             clear HO_7
             clear HB
             have HO_4 := n0_
             have HO_5 := n1_
             have HO_7 := n2_
             have HB := n3_
             have BK348 := n4_
             have GW348 := n5_
             have GE348 := n6_
             clear n0_ n1_ n2_ n3_ n4_ n5_ n6_
             clear hb hbox hg
             refine hK.out _ _ ⟨HS0_, HS1_⟩ (fun hHeld => ?_)
             clear hK K
             refine norm_ (a' := ?_) ?_ ?_
             rotate_left
             ·show Act.put _ (some 9) _ = _
              simp only [Act.put, List.setIfInBounds_toArray, List.set_cons_zero, List.set_cons_succ, i64_w, i32_w]
              rfl
             refine one_ (i := 10) (N := none) #[true, true, true, true, true, true, true, true, true, true, true] rfl rfl (one_of HT_.out (by kernel_rfl)) (by decide) (fun K hK => ?_)
             have hs39 : w38.cell? ⟨gb348, 0, none⟩ = some (.int .i64 0) := (blk_cell BK348.out 0).trans rfl
             have hfs39 := blk_frozen BK348.out 0
             have hs40 : w38.cell? ⟨gb348, 1, none⟩ = some (.int .i64 0) := (blk_cell BK348.out 1).trans rfl
             have hfs40 := blk_frozen BK348.out 1
             have hs41 : w38.cell? ⟨gb348, 2, none⟩ = some (.int .i64 0) := (blk_cell BK348.out 2).trans rfl
             have hfs41 := blk_frozen BK348.out 2
             have hs42 : w38.cell? ⟨gb348, 3, none⟩ = some (.int .i64 0) := (blk_cell BK348.out 3).trans rfl
             have hfs42 := blk_frozen BK348.out 3
             refine skip_ (w1 := ?_) (by rfl) rfl ?_ ?_
             rotate_left
             ·go_simp
              rfl
             refine hK.out _ _ ⟨((cell_far (p := ⟨gb348, _, none⟩) (by first | exact Kd.own_blk (Kd.R_ne HO_7.out BK348.out (by decide)) | (rw [add_block]; exact Kd.own_blk (Kd.R_ne HO_7.out BK348.out (by decide))) | (show (Addr.add _ _).block ≠ _; rw [add_block]; exact Kd.own_blk (Kd.R_ne HO_7.out BK348.out (by decide))) | (dsimp only; exact Kd.own_blk (Kd.R_ne HO_7.out BK348.out (by decide)))) _).trans (((cell_far (p := ⟨gb348, _, none⟩) (by first | exact Kd.own_blk (Kd.R_ne HO_7.out BK348.out (by decide)) | (rw [add_block]; exact Kd.own_blk (Kd.R_ne HO_7.out BK348.out (by decide))) | (show (Addr.add _ _).block ≠ _; rw [add_block]; exact Kd.own_blk (Kd.R_ne HO_7.out BK348.out (by decide))) | (dsimp only; exact Kd.own_blk (Kd.R_ne HO_7.out BK348.out (by decide)))) _).trans (((cell_far (p := ⟨gb348, _, none⟩) (by first | exact Kd.own_blk (Kd.R_ne HO_7.out BK348.out (by decide)) | (rw [add_block]; exact Kd.own_blk (Kd.R_ne HO_7.out BK348.out (by decide))) | (show (Addr.add _ _).block ≠ _; rw [add_block]; exact Kd.own_blk (Kd.R_ne HO_7.out BK348.out (by decide))) | (dsimp only; exact Kd.own_blk (Kd.R_ne HO_7.out BK348.out (by decide)))) _).trans (((cell_far (p := ⟨gb348, _, none⟩) (by first | exact Kd.own_blk (Kd.R_ne HO_7.out BK348.out (by decide)) | (rw [add_block]; exact Kd.own_blk (Kd.R_ne HO_7.out BK348.out (by decide))) | (show (Addr.add _ _).block ≠ _; rw [add_block]; exact Kd.own_blk (Kd.R_ne HO_7.out BK348.out (by decide))) | (dsimp only; exact Kd.own_blk (Kd.R_ne HO_7.out BK348.out (by decide)))) _).trans (hHeld.1)))))))), ((cell_far (p := ⟨gb348, _, none⟩) (by first | exact Kd.own_blk (Kd.R_ne HO_7.out BK348.out (by decide)) | (rw [add_block]; exact Kd.own_blk (Kd.R_ne HO_7.out BK348.out (by decide))) | (show (Addr.add _ _).block ≠ _; rw [add_block]; exact Kd.own_blk (Kd.R_ne HO_7.out BK348.out (by decide))) | (dsimp only; exact Kd.own_blk (Kd.R_ne HO_7.out BK348.out (by decide)))) _).trans (((cell_far (p := ⟨gb348, _, none⟩) (by first | exact Kd.own_blk (Kd.R_ne HO_7.out BK348.out (by decide)) | (rw [add_block]; exact Kd.own_blk (Kd.R_ne HO_7.out BK348.out (by decide))) | (show (Addr.add _ _).block ≠ _; rw [add_block]; exact Kd.own_blk (Kd.R_ne HO_7.out BK348.out (by decide))) | (dsimp only; exact Kd.own_blk (Kd.R_ne HO_7.out BK348.out (by decide)))) _).trans (((cell_far (p := ⟨gb348, _, none⟩) (by first | exact Kd.own_blk (Kd.R_ne HO_7.out BK348.out (by decide)) | (rw [add_block]; exact Kd.own_blk (Kd.R_ne HO_7.out BK348.out (by decide))) | (show (Addr.add _ _).block ≠ _; rw [add_block]; exact Kd.own_blk (Kd.R_ne HO_7.out BK348.out (by decide))) | (dsimp only; exact Kd.own_blk (Kd.R_ne HO_7.out BK348.out (by decide)))) _).trans (((cell_far (p := ⟨gb348, _, none⟩) (by first | exact Kd.own_blk (Kd.R_ne HO_7.out BK348.out (by decide)) | (rw [add_block]; exact Kd.own_blk (Kd.R_ne HO_7.out BK348.out (by decide))) | (show (Addr.add _ _).block ≠ _; rw [add_block]; exact Kd.own_blk (Kd.R_ne HO_7.out BK348.out (by decide))) | (dsimp only; exact Kd.own_blk (Kd.R_ne HO_7.out BK348.out (by decide)))) _).trans (hHeld.2))))))))⟩ (fun hHeld => ?_)
             clear hK K
             refine done_ (done_of HT_.out (by kernel_rfl)) ?_
             have hcz43_0 : w38.cell? ⟨gb348, 0, none⟩ = some (.int .i64 0) := (blk_cell BK348.out 0).trans rfl
             have hcz43_1 : w38.cell? ⟨gb348, 1, none⟩ = some (.int .i64 0) := (blk_cell BK348.out 1).trans rfl
             have hcz43_2 : w38.cell? ⟨gb348, 2, none⟩ = some (.int .i64 0) := (blk_cell BK348.out 2).trans rfl
             have hcz43_3 : w38.cell? ⟨gb348, 3, none⟩ = some (.int .i64 0) := (blk_cell BK348.out 3).trans rfl
             have hfz43_0 := blk_frozen BK348.out 0
             have hfz43_1 := blk_frozen BK348.out 1
             have hfz43_2 := blk_frozen BK348.out 2
             have hfz43_3 := blk_frozen BK348.out 3
             try go_wp2_with (first | ((with_reducible refine gate_builtin (b := .append) (xs := #[.tmp 63, .tmp 65]) rfl ?_); (try (refine gate_guard (by rfl) ?_; dsimp only)); at_builtin; refine Kd.R_append k37 (w0 := w) w.heap.size rfl (.tmp 63) (.tmp 65) 23 37 (.agg #[(.int .i64 0), (.int .i64 0), (.int .i64 0), (.int .i64 0)]) 32 rfl Tryz.underlying23 info37 rfl (by decide) (by omega) u5 x5_1 (⟨(⟨rd t342 0, rd t342 1⟩ : S35), (⟨1, 0⟩ : S35)⟩ : S37) [.int .i64 (rd t342 0), .int .i64 (rd t342 1), .int .i64 1, .int .i64 0] (fun k_ => k_ ≠ gb348) (fun _ => False) rfl (by first | (go_simp; done) | (go_simp; rfl)) ?aP (fun _ hk => hk.elim) ?aF ?aO ?aB ?aS ?aL ?_; (case aP => exact k37_mkM _ _ _ (⟨(⟨rd t342 0, rd t342 1⟩ : S35), (⟨1, 0⟩ : S35)⟩ : S37)); (case aB => exact bl_); (case aF => exact (fun k_ hk => Kd.freshB (g := gb348) (o := .cells #[.int .i64 (rd t342 0), .int .i64 (rd t342 1), .int .i64 1, .int .i64 0] 37 (0, 0)) (by (with_reducible repeat (first | refine blk_drewN ?_ _ | refine blk_drew ?_ | refine blk_alloc ?_ _)); refine blk_put (cs := #[.int .i64 (rd t342 0), .int .i64 (rd t342 1), .int .i64 1, .int .i64 0]) ?_ 3 _ rfl; (with_reducible repeat (first | refine blk_drewN ?_ _ | refine blk_drew ?_ | refine blk_alloc ?_ _)); refine blk_put (cs := #[.int .i64 (rd t342 0), .int .i64 (rd t342 1), .int .i64 0, .int .i64 0]) ?_ 2 _ rfl; (with_reducible repeat (first | refine blk_drewN ?_ _ | refine blk_drew ?_ | refine blk_alloc ?_ _)); refine blk_put (cs := #[.int .i64 (rd t342 0), .int .i64 0, .int .i64 0, .int .i64 0]) ?_ 1 _ rfl; (with_reducible repeat (first | refine blk_drewN ?_ _ | refine blk_drew ?_ | refine blk_alloc ?_ _)); refine blk_put (cs := #[.int .i64 0, .int .i64 0, .int .i64 0, .int .i64 0]) ?_ 0 _ rfl; (with_reducible repeat (first | refine blk_drewN ?_ _ | refine blk_drew ?_ | refine blk_alloc ?_ _)); exact BK348.out) k_ hk)); (case aO => exact (by (with_reducible repeat (first | apply Kd.R_alloc | apply Kd.R_drewN | apply Kd.R_drew)); exact Kd.R_mono (Kd.R_far (p := ⟨gb348, 3, none⟩) (Kd.R_far (p := ⟨gb348, 2, none⟩) (Kd.R_far (p := ⟨gb348, 1, none⟩) (Kd.R_far (p := ⟨gb348, 0, none⟩) (Kd.R_mono HO_5.out (fun k_ hk => (⟨hk, hk.2⟩ : _ ∧ k_ ≠ gb348))) (fun _ hk => hk.2) (.int .i64 (rd t342 0))) (fun _ hk => hk.2) (.int .i64 (rd t342 1))) (fun _ hk => hk.2) (.int .i64 1)) (fun _ hk => hk.2) (.int .i64 0)) (fun _ hk => hk.1.2))); (case aS => exact (below_size bl_)); (case aL => have := LMc35.out; omega); intro v355 w44 ho hb hg hat; rw [← Ny354.out] at ho; have n0_ := a_ (Kd.R_over' (by (with_reducible repeat (first | apply Kd.R_alloc | apply Kd.R_drewN | apply Kd.R_drew)); exact (Kd.R_mono (Kd.R_far (p := ⟨gb348, 3, none⟩) (Kd.R_far (p := ⟨gb348, 2, none⟩) (Kd.R_far (p := ⟨gb348, 1, none⟩) (Kd.R_far (p := ⟨gb348, 0, none⟩) (Kd.R_types HO_4.out BK348.out (by decide)) (fun _ hk => hk.2) (.int .i64 (rd t342 0))) (fun _ hk => hk.2) (.int .i64 (rd t342 1))) (fun _ hk => hk.2) (.int .i64 1)) (fun _ hk => hk.2) (.int .i64 0)) (fun _ h_ => h_.1))) (Kd.R_typed (by (with_reducible repeat (first | apply Kd.R_alloc | apply Kd.R_drewN | apply Kd.R_drew)); exact (Kd.R_mono (Kd.R_far (p := ⟨gb348, 3, none⟩) (Kd.R_far (p := ⟨gb348, 2, none⟩) (Kd.R_far (p := ⟨gb348, 1, none⟩) (Kd.R_far (p := ⟨gb348, 0, none⟩) (Kd.R_mono HO_5.out (fun k_ hk => (⟨hk, hk.2⟩ : _ ∧ k_ ≠ gb348))) (fun _ hk => hk.2) (.int .i64 (rd t342 0))) (fun _ hk => hk.2) (.int .i64 (rd t342 1))) (fun _ hk => hk.2) (.int .i64 1)) (fun _ hk => hk.2) (.int .i64 0)) (fun _ h_ => h_.1)))) (by decide) hg); have n1_ := a_ (Kd.R_over' (by (with_reducible repeat (first | apply Kd.R_alloc | apply Kd.R_drewN | apply Kd.R_drew)); exact (Kd.R_mono (Kd.R_far (p := ⟨gb348, 3, none⟩) (Kd.R_far (p := ⟨gb348, 2, none⟩) (Kd.R_far (p := ⟨gb348, 1, none⟩) (Kd.R_far (p := ⟨gb348, 0, none⟩) (Kd.R_types HO_7.out BK348.out (by decide)) (fun _ hk => hk.2) (.int .i64 (rd t342 0))) (fun _ hk => hk.2) (.int .i64 (rd t342 1))) (fun _ hk => hk.2) (.int .i64 1)) (fun _ hk => hk.2) (.int .i64 0)) (fun _ h_ => h_.1))) (Kd.R_typed (by (with_reducible repeat (first | apply Kd.R_alloc | apply Kd.R_drewN | apply Kd.R_drew)); exact (Kd.R_mono (Kd.R_far (p := ⟨gb348, 3, none⟩) (Kd.R_far (p := ⟨gb348, 2, none⟩) (Kd.R_far (p := ⟨gb348, 1, none⟩) (Kd.R_far (p := ⟨gb348, 0, none⟩) (Kd.R_mono HO_5.out (fun k_ hk => (⟨hk, hk.2⟩ : _ ∧ k_ ≠ gb348))) (fun _ hk => hk.2) (.int .i64 (rd t342 0))) (fun _ hk => hk.2) (.int .i64 (rd t342 1))) (fun _ hk => hk.2) (.int .i64 1)) (fun _ hk => hk.2) (.int .i64 0)) (fun _ h_ => h_.1)))) (by decide) hg); have n2_ := a_ (blk_grown (g := gb348) (o := .cells #[.int .i64 (rd t342 0), .int .i64 (rd t342 1), .int .i64 1, .int .i64 0] 37 (0, 0)) (by (with_reducible repeat (first | refine blk_drewN ?_ _ | refine blk_drew ?_ | refine blk_alloc ?_ _)); refine blk_put (cs := #[.int .i64 (rd t342 0), .int .i64 (rd t342 1), .int .i64 1, .int .i64 0]) ?_ 3 _ rfl; (with_reducible repeat (first | refine blk_drewN ?_ _ | refine blk_drew ?_ | refine blk_alloc ?_ _)); refine blk_put (cs := #[.int .i64 (rd t342 0), .int .i64 (rd t342 1), .int .i64 0, .int .i64 0]) ?_ 2 _ rfl; (with_reducible repeat (first | refine blk_drewN ?_ _ | refine blk_drew ?_ | refine blk_alloc ?_ _)); refine blk_put (cs := #[.int .i64 (rd t342 0), .int .i64 0, .int .i64 0, .int .i64 0]) ?_ 1 _ rfl; (with_reducible repeat (first | refine blk_drewN ?_ _ | refine blk_drew ?_ | refine blk_alloc ?_ _)); refine blk_put (cs := #[.int .i64 0, .int .i64 0, .int .i64 0, .int .i64 0]) ?_ 0 _ rfl; (with_reducible repeat (first | refine blk_drewN ?_ _ | refine blk_drew ?_ | refine blk_alloc ?_ _)); exact BK348.out) hg (Kd.R_away HO_5.out (fun _ hk => hk.2))); have n3_ := a_ (hb); have n4_ := a_ (ho); clear HO_4; clear HO_7; clear BK348; clear HB; clear HO_5; have HO_4 := n0_; have HO_7 := n1_; have BK348 := n2_; have HB := n3_; have HO356 := n4_; clear n0_ n1_ n2_ n3_ n4_; clear ho hb hg hat))
             go_roundg kj7
             case measure => have := HK1.out; have := HJ7.out; omega
             case rel => exact ⟨(y354), (wrap64 (x6_1 + 1)), (by first | rfl | (simp; done) | (simp [*]; done)), H', ⟨by have := HK1.out; have := HJ7.out; omega⟩, ⟨rl_ HO_4.out⟩, ⟨rl_ (Kd.R_mono HO356.out (fun _ hk => trivial))⟩, ⟨bl_⟩⟩
            ·rw [if_neg c35] at H
             exact absurd H (by simp)
          ·rw [if_neg c17] at H
           exact absurd H (by simp)
         ·rw [if_neg c16] at H
          exact absurd H (by simp)
     ·rw [if_neg c6] at H
      exact absurd H (by simp)
    ·rw [if_neg c5] at H
     have c5b0 : decide (x6_1 < (t336.length : Int)) = false := decide_eq_false c5
     clear c5
     replace H := Option.bind_eq_some_iff.mp H
     obtain ⟨⟨t339, t340⟩, A450, H⟩ := H
     replace H : (if t340 = 0 then (if t339.toList = a0.toList then (some (x5_1, 0)) else (some (([] : List (S37)), 3))) else (some (([] : List (S37)), 3))) = some (r1, r2) := H
     have A45 := a_ A450
     clear A450
     by_cases c46 : t340 = 0
     ·rw [if_pos c46] at H
      have c46b0 : (t340 == 0) = true := beq_iff_eq.mpr c46
      have c46b1 : (t340 != 0) = false := bne_eq_false_iff_eq.mpr c46
      clear c46
      by_cases c47 : t339.toList = a0.toList
      ·rw [if_pos c47] at H
       have c47b0 : (t339.toList == a0.toList) = true := beq_iff_eq.mpr c47
       have c47b1 : (t339.toList != a0.toList) = false := bne_eq_false_iff_eq.mpr c47
       clear c47
       simp only [Option.some.injEq, Prod.mk.injEq] at H
       obtain ⟨rfl, rfl⟩ := H
       obtain ⟨Ao48, co48, eo48⟩ := Kd.R_slice HO_4.out
       subst eo48
       obtain ⟨Ao49, co49, eo49⟩ := Kd.R_slice HO_5.out
       subst eo49
       go_wp2_with (first | ((with_reducible refine gate_callee (f := 7) rfl ?_); refine goesL_ (some 69) rfl rfl Tryz.func7 (by kernel_rfl) rfl #[.slice Ao49 x5_1.length co49] rfl tm_ ?_; (with_reducible refine (waterhourref04_Print.calls k1 _ _ x5_1 t339 t340 _ ?side1 ?side2 ?side3 A45.out).mono ?_); (case side1 => exact cl_ ((Kd.R_reads' HO_5.out).2.2)); (case side2 => exact (Kd.R_reads' HO_5.out).2.1); (case side3 => exact TabB.below HT.out bl_); rintro e w50 ⟨rfl, hb⟩; refine ⟨_, rfl, ?_⟩; have n0_ := a_ (Kd.R_below (rl_ HO_4.out) hb); have n1_ := a_ (Kd.R_below (rl_ HO_5.out) hb); have n2_ := a_ (below_step bl_ hb); clear HO_4; clear HO_5; clear HB; have HO_4 := n0_; have HO_5 := n1_; have HB := n2_; clear n0_ n1_ n2_; (try clear hb); (try clear hb2); (try clear hk); (try clear hi)))
       go_ret2
       exact ⟨_, by first | rfl | (simp [errW_none, errW_some] <;> rfl) | (simp [*, errW_none, errW_some] <;> rfl), by (with_reducible repeat (first | apply Kd.R_alloc | apply Kd.R_drewN | apply Kd.R_drew)); exact HO_5.out, bl_⟩
      ·rw [if_neg c47] at H
       have c47b0 : (t339.toList == a0.toList) = false := beq_eq_false_iff_ne.mpr c47
       have c47b1 : (t339.toList != a0.toList) = true := bne_iff_ne.mpr c47
       simp only [Option.some.injEq, Prod.mk.injEq] at H
       obtain ⟨rfl, rfl⟩ := H
       obtain ⟨Ao51, co51, eo51⟩ := Kd.R_slice HO_4.out
       subst eo51
       obtain ⟨Ao52, co52, eo52⟩ := Kd.R_slice HO_5.out
       subst eo52
       go_wp2_with (first | ((with_reducible refine gate_callee (f := 7) rfl ?_); refine goesL_ (some 69) rfl rfl Tryz.func7 (by kernel_rfl) rfl #[.slice Ao52 x5_1.length co52] rfl tm_ ?_; (with_reducible refine (waterhourref04_Print.calls k1 _ _ x5_1 t339 t340 _ ?side1 ?side2 ?side3 A45.out).mono ?_); (case side1 => exact cl_ ((Kd.R_reads' HO_5.out).2.2)); (case side2 => exact (Kd.R_reads' HO_5.out).2.1); (case side3 => exact TabB.below HT.out bl_); rintro e w53 ⟨rfl, hb⟩; refine ⟨_, rfl, ?_⟩; have n0_ := a_ (Kd.R_below (rl_ HO_4.out) hb); have n1_ := a_ (Kd.R_below (rl_ HO_5.out) hb); have n2_ := a_ (below_step bl_ hb); clear HO_4; clear HO_5; clear HB; have HO_4 := n0_; have HO_5 := n1_; have HB := n2_; clear n0_ n1_ n2_; (try clear hb); (try clear hb2); (try clear hk); (try clear hi)))
       go_ret2
       exact ⟨_, by first | rfl | (simp [errW_none, errW_some] <;> rfl) | (simp [*, errW_none, errW_some] <;> rfl), by first | exact Kd.R_nil _ _ _ _ _ | exact Kd.N_nil _ _ _ _ _ | exact Kd.V_nil _ _ _ _ _ | exact Kd.Q_nil _ _ _ _ _ | exact Kd.S_nil _ _ _ _ _, bl_⟩
     ·rw [if_neg c46] at H
      have c46b0 : (t340 == 0) = false := beq_eq_false_iff_ne.mpr c46
      have c46b1 : (t340 != 0) = true := bne_iff_ne.mpr c46
      simp only [Option.some.injEq, Prod.mk.injEq] at H
      obtain ⟨rfl, rfl⟩ := H
      obtain ⟨Ao54, co54, eo54⟩ := Kd.R_slice HO_4.out
      subst eo54
      obtain ⟨Ao55, co55, eo55⟩ := Kd.R_slice HO_5.out
      subst eo55
      go_wp2_with (first | ((with_reducible refine gate_callee (f := 7) rfl ?_); refine goesL_ (some 69) rfl rfl Tryz.func7 (by kernel_rfl) rfl #[.slice Ao55 x5_1.length co55] rfl tm_ ?_; (with_reducible refine (waterhourref04_Print.calls k1 _ _ x5_1 t339 t340 _ ?side1 ?side2 ?side3 A45.out).mono ?_); (case side1 => exact cl_ ((Kd.R_reads' HO_5.out).2.2)); (case side2 => exact (Kd.R_reads' HO_5.out).2.1); (case side3 => exact TabB.below HT.out bl_); rintro e w56 ⟨rfl, hb⟩; refine ⟨_, rfl, ?_⟩; have n0_ := a_ (Kd.R_below (rl_ HO_4.out) hb); have n1_ := a_ (Kd.R_below (rl_ HO_5.out) hb); have n2_ := a_ (below_step bl_ hb); clear HO_4; clear HO_5; clear HB; have HO_4 := n0_; have HO_5 := n1_; have HB := n2_; clear n0_ n1_ n2_; (try clear hb); (try clear hb2); (try clear hk); (try clear hi)))
      go_ret2
      exact ⟨_, by first | rfl | (simp [errW_none, errW_some] <;> rfl) | (simp [*, errW_none, errW_some] <;> rfl), by first | exact Kd.R_nil _ _ _ _ _ | exact Kd.N_nil _ _ _ _ _ | exact Kd.V_nil _ _ _ _ _ | exact Kd.Q_nil _ _ _ _ _ | exact Kd.S_nil _ _ _ _ _, bl_⟩

end Go.Proofs.YtgiihjcpgjpkcaaGreatDoor.Q
