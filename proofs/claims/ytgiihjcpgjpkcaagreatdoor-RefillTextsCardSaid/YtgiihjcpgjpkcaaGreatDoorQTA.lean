/- Contracts of functions of the given program: each Go function as a plain Lean function (name.f) and the proof that its call answers just so, for every reading of its arguments. Written by the session's program wip/xprint.py out of the translation. -/
import Derived.Test.YtgiihjcpgjpkcaaGreatDoorQ0
import Derived.Test.YtgiihjcpgjpkcaaGreatDoorQC
import Derived.Test.YtgiihjcpgjpkcaaGreatDoorHStr
namespace Go.Proofs.YtgiihjcpgjpkcaaGreatDoor.Q
open Go.RowKit Go.Proofs.YtgiihjcpgjpkcaaGreatDoorW.PrintWords Go.Proofs.YtgiihjcpgjpkcaaGreatDoorW.PrintLast Go.Proofs.YtgiihjcpgjpkcaaGreatDoorW.PrintMore
attribute [local go_sem] max2_int min2_int max_two min_two max_three min_three max_four min_four   -- for this text's walks alone
set_option linter.unusedVariables false
set_option linter.unusedSimpArgs false

/-! ### waterhourref04_Print: function 7 -/
mutual
def waterhourref04_Print.l0 : Nat → List (S37) → ByteArray → Int → Option (ByteArray × Int)
 | 0, _, _, _ => none
 | k + 1, x0, x4, x5 => if x5 < (x0.length : Int) then (if x5 > 0 then (if x4.size + 1 ≤ 9223372036854775807 then (waterhourref04_Print.j1 k x0 (x4 ++ (⟨#[32]⟩ : ByteArray)) x5) else (none)) else (waterhourref04_Print.j1 k x0 x4 x5)) else (some (x4, 0))
def waterhourref04_Print.j1 : Nat → List (S37) → ByteArray → Int → Option (ByteArray × Int)
 | 0, _, _, _ => none
 | k + 1, x0, x4, x5 => if 0 ≤ x5 then (if x5 < (x0.length : Int) then ((strconv_Itoa.f ((rd_T37 x0 x5).f0.f0)).bind fun t269 => (if t269.size + 1 ≤ 9223372036854775807 then ((strconv_Itoa.f ((rd_T37 x0 x5).f0.f1)).bind fun t271 => (if (t269 ++ (⟨#[45]⟩ : ByteArray)).size + t271.size ≤ 9223372036854775807 then (if x4.size + ((t269 ++ (⟨#[45]⟩ : ByteArray)) ++ t271).size ≤ 9223372036854775807 then ((waterhourref04_Known.f ((rd_T37 x0 x5).f1.f0) ((rd_T37 x0 x5).f1.f1)).bind fun t273 => (if t273 = true then ((strconv_Itoa.f ((rd_T37 x0 x5).f1.f0)).bind fun t275 => (if 1 + t275.size ≤ 9223372036854775807 then (if ((⟨#[64]⟩ : ByteArray) ++ t275).size + 1 ≤ 9223372036854775807 then ((strconv_Itoa.f ((rd_T37 x0 x5).f1.f1)).bind fun t277 => (if (((⟨#[64]⟩ : ByteArray) ++ t275) ++ (⟨#[45]⟩ : ByteArray)).size + t277.size ≤ 9223372036854775807 then (if (x4 ++ ((t269 ++ (⟨#[45]⟩ : ByteArray)) ++ t271)).size + ((((⟨#[64]⟩ : ByteArray) ++ t275) ++ (⟨#[45]⟩ : ByteArray)) ++ t277).size ≤ 9223372036854775807 then (waterhourref04_Print.l0 k x0 ((x4 ++ ((t269 ++ (⟨#[45]⟩ : ByteArray)) ++ t271)) ++ ((((⟨#[64]⟩ : ByteArray) ++ t275) ++ (⟨#[45]⟩ : ByteArray)) ++ t277)) (wrap64 (x5 + 1))) else (none)) else (none))) else (none)) else (none))) else (waterhourref04_Print.l0 k x0 (x4 ++ ((t269 ++ (⟨#[45]⟩ : ByteArray)) ++ t271)) (wrap64 (x5 + 1))))) else (none)) else (none))) else (none))) else (none)) else (none)
end
def waterhourref04_Print.f (k : Nat) (l0 : List (S37)) : Option (ByteArray × Int) := (waterhourref04_Valid.f k l0).bind fun t267 => (if t267 = true then (waterhourref04_Print.l0 k l0 (⟨#[]⟩ : ByteArray) 0) else (some ((⟨#[]⟩ : ByteArray), 40)))
theorem waterhourref04_Print.mono_l : ∀ k, (∀ y0 y1 y2, LeO (waterhourref04_Print.l0 k y0 y1 y2) (waterhourref04_Print.l0 (k + 1) y0 y1 y2)) ∧ (∀ y0 y1 y2, LeO (waterhourref04_Print.j1 k y0 y1 y2) (waterhourref04_Print.j1 (k + 1) y0 y1 y2))
 | 0 => ⟨fun _ _ _ r h => by simp [waterhourref04_Print.l0] at h, fun _ _ _ r h => by simp [waterhourref04_Print.j1] at h⟩
 | k + 1 => by
  obtain ⟨ih0, ih1⟩ := waterhourref04_Print.mono_l k
  refine ⟨?_, ?_⟩
  ·intro y0 y1 y2
   unfold waterhourref04_Print.l0
   repeat' first
   | (with_reducible exact ih0 _ _ _)
   | (with_reducible exact ih1 _ _ _)
   | (with_reducible exact waterhourref04_Valid.mono _ _)
   | (with_reducible exact LeO.refl _)
   | (with_reducible exact LeO.none _)
   | (with_reducible refine LeO.ite ?_ ?_)
   | (with_reducible refine LeO.bind ?_ (fun _ => ?_))
   | exact ih0 _ _ _
   | exact ih1 _ _ _
   | exact waterhourref04_Valid.mono _ _
   | exact LeO.none _
   | refine LeO.ite ?_ ?_
   | refine LeO.bind ?_ (fun _ => ?_)
  ·intro y0 y1 y2
   unfold waterhourref04_Print.j1
   repeat' first
   | (with_reducible exact ih0 _ _ _)
   | (with_reducible exact ih1 _ _ _)
   | (with_reducible exact waterhourref04_Valid.mono _ _)
   | (with_reducible exact LeO.refl _)
   | (with_reducible exact LeO.none _)
   | (with_reducible refine LeO.ite ?_ ?_)
   | (with_reducible refine LeO.bind ?_ (fun _ => ?_))
   | exact ih0 _ _ _
   | exact ih1 _ _ _
   | exact waterhourref04_Valid.mono _ _
   | exact LeO.none _
   | refine LeO.ite ?_ ?_
   | refine LeO.bind ?_ (fun _ => ?_)
theorem waterhourref04_Print.mono : ∀ a0 k, LeO (waterhourref04_Print.f k a0) (waterhourref04_Print.f (k + 1) a0) := by
 intro a0 k
 obtain ⟨ih0, ih1⟩ := waterhourref04_Print.mono_l k
 unfold waterhourref04_Print.f
 repeat' first
   | (with_reducible exact ih0 _ _ _)
   | (with_reducible exact ih1 _ _ _)
   | (with_reducible exact waterhourref04_Valid.mono _ _)
   | (with_reducible exact LeO.refl _)
   | (with_reducible exact LeO.none _)
   | (with_reducible refine LeO.ite ?_ ?_)
   | (with_reducible refine LeO.bind ?_ (fun _ => ?_))
   | exact ih0 _ _ _
   | exact ih1 _ _ _
   | exact waterhourref04_Valid.mono _ _
   | exact LeO.none _
   | refine LeO.ite ?_ ?_
   | refine LeO.bind ?_ (fun _ => ?_)
def waterhourref04_Print.T9 : Bool × List (List Nat × List Nat) := (true, [([], []), ([], []), ([], []), ([1, 2], [1, 2]), ([3], [3]), ([4], [4]), ([5], [5]), ([6], [6]), ([7], [7]), ([], []), ([], []), ([9, 10], [9, 10]), ([11], [11]), ([12], [12]), ([13], [13]), ([14, 7], [14]), ([8, 15], [8, 15]), ([0, 16], [0, 16]), ([17, 15, 0, 1, 2, 3, 4, 5, 6, 7, 8, 9, 10, 11, 12, 13, 14, 15, 16, 17], [0, 17])])
def waterhourref04_Print.B9 : List Nat := [0, 0, 0, 6, 14, 30, 62, 126, 254, 0, 0, 1536, 3584, 7680, 15872, 32510, 65534, 131071, 262143]
theorem waterhourref04_Print.tab9 : rtab .any (opsOf Tryz.f7 9) = waterhourref04_Print.T9 := by kernel_rfl
theorem waterhourref04_Print.bits9 : waitsOk waterhourref04_Print.T9.2 waterhourref04_Print.B9 = true := by kernel_rfl
def waterhourref04_Print.T11 : Bool × List (List Nat × List Nat) := (true, [([], []), ([], []), ([], []), ([1, 2], [1, 2]), ([3], [3]), ([4], [4]), ([5], [5]), ([6], [6]), ([7], [7]), ([8], [8]), ([], []), ([], []), ([10, 11], [10, 11]), ([12], [12]), ([13], [13]), ([14], [14]), ([15, 7], [15]), ([9, 16], [9, 16]), ([0, 17], [0, 17]), ([18, 16, 0, 1, 2, 3, 4, 5, 6, 7, 8, 9, 10, 11, 12, 13, 14, 15, 16, 17, 18], [0, 18])])
def waterhourref04_Print.B11 : List Nat := [0, 0, 0, 6, 14, 30, 62, 126, 254, 510, 0, 0, 3072, 7168, 15360, 31744, 64766, 131070, 262143, 524287]
theorem waterhourref04_Print.tab11 : rtab .any (opsOf Tryz.f7 11) = waterhourref04_Print.T11 := by kernel_rfl
theorem waterhourref04_Print.bits11 : waitsOk waterhourref04_Print.T11.2 waterhourref04_Print.B11 = true := by kernel_rfl
set_option maxHeartbeats 8000000 in
set_option maxRecDepth 100000 in
theorem waterhourref04_Print.calls (k : Nat) (A0 : Option Addr) (c0 : Nat) (l0 : List (S37)) (r1 : ByteArray) (r2 : Int) (w : World) (hr0 : Kd.C k37 w A0 l0.length l0) (hc0 : l0.length ≤ c0) (ht : TabB w) (h : waterhourref04_Print.f k l0 = some (r1, r2)) :
  Calls Tryz.prog 7 #[.slice A0 l0.length c0] w fun e w' => e = .returned (.tuple #[.string r1, .int .i64 r2]) ∧ Below w.heap.size w w' := by
 have hu35 := Tryz.underlying35
 have HR0 := a_ hr0
 have HC0 := a_ hc0
 clear hr0 hc0
 have HT := a_ ht
 clear ht
 have HB := a_ (Below.refl w.heap.size w)
 have H : ((waterhourref04_Valid.f k l0).bind fun t267 => (if t267 = true then (waterhourref04_Print.l0 k l0 (⟨#[]⟩ : ByteArray) 0) else (some ((⟨#[]⟩ : ByteArray), 40)))) = some (r1, r2) := h
 clear h
 replace H := Option.bind_eq_some_iff.mp H
 obtain ⟨t267, A20, H⟩ := H
 replace H : (if t267 = true then (waterhourref04_Print.l0 k l0 (⟨#[]⟩ : ByteArray) 0) else (some ((⟨#[]⟩ : ByteArray), 40))) = some (r1, r2) := H
 have A2 := a_ A20
 clear A20
 by_cases c3 : t267 = true
 ·subst c3
  have H1 : (waterhourref04_Print.l0 k l0 (⟨#[]⟩ : ByteArray) 0) = some (r1, r2) := by rw [if_pos rfl] at H; exact H
  clear H
  have H := H1
  clear H1
  have H' := a_ H
  clear H
  go_enter Tryz.func7, Tryz.ntmps7
  go_wp2_with (first | ((with_reducible refine gate_callee (f := 29) rfl ?_); refine goesL_ (some 7) rfl rfl Tryz.func29 (by kernel_rfl) rfl #[.slice A0 l0.length c0] rfl tm_ ?_; (with_reducible refine (waterhourref04_Valid.calls k _ _ l0 true _ ?side1 ?side2 A2.out).mono ?_); (case side1 => exact cl_ HR0.out); (case side2 => exact HC0.out); rintro e w4 ⟨rfl, hb⟩; refine ⟨_, rfl, ?_⟩; have n0_ := a_ (below_step bl_ hb); clear HB; have HB := n0_; clear n0_; (try clear hb); (try clear hb2); (try clear hk); (try clear hi)))
  go_loopg [4, 5] k (fun kq v4 v5 w' => ∃ (x4_1 : ByteArray) (x5_1 : Int), v4 = .string x4_1 ∧ v5 = .int .i64 x5_1 ∧ Aside0 (waterhourref04_Print.l0 kq l0 x4_1 x5_1 = some (r1, r2)) ∧ Aside0 (kq ≤ k) ∧ Aside0 (Below w.heap.size w w'))
  case atStart => exact ⟨((⟨#[]⟩ : ByteArray)), (0), (by first | rfl | (simp; done) | (simp [*]; done)), (by first | rfl | (simp; done) | (simp [*]; done)), H', ⟨Nat.le_refl _⟩, ⟨bl_⟩⟩
  case round =>
   clear H'
   try clear c2
   try clear p2
   try clear c3
   obtain ⟨x4_1, x5_1, rfl, rfl, HA, HK1, HB⟩ := hrel
   cases gk with
   | zero => exact absurd HA.out (by simp [waterhourref04_Print.l0])
   | succ k1 =>
    have H := HA.out
    clear HA
    simp only [waterhourref04_Print.l0] at H
    by_cases c5 : x5_1 < (l0.length : Int)
    ·rw [if_pos c5] at H
     have c5b0 : decide (x5_1 < (l0.length : Int)) = true := decide_eq_true c5
     clear c5
     have HC6 := a_ H
     clear H
     go_upto_if 16 with (fail)
     go_cut [4] (fun v4 wc => ∃ (kq : Nat) (x4_5 : ByteArray), v4 = .string x4_5 ∧ Aside0 (waterhourref04_Print.j1 kq l0 x4_5 x5_1 = some (r1, r2)) ∧ Aside0 (kq ≤ k1) ∧ Aside0 (Below w.heap.size w wc))
     case first =>
      have H := HC6.out
      clear HC6
      by_cases c7 : x5_1 > 0
      ·rw [if_pos c7] at H
       have c7b0 : decide (0 < x5_1) = true := decide_eq_true c7
       clear c7
       (first | rw [c7b0] | (simp only [i64_w, i32_w]; rw [c7b0]) | skip)
       by_cases c8 : x4_1.size + 1 ≤ 9223372036854775807
       ·rw [if_pos c8] at H
        have c8b0 := eq_true c8
        have c8b1 : decide (x4_1.size + 1 ≤ 9223372036854775807) = true := decide_eq_true c8
        try have c8b2 : (9223372036854775807 < x4_1.size + 1) = False := eq_false (Nat.not_lt.2 c8)
        have H' := a_ H
        clear H
        go_wp2
        go_meet
        case rel => exact ⟨_, (x4_1 ++ (⟨#[32]⟩ : ByteArray)), (by first | rfl | (simp; done) | (simp [*]; done)), H', ⟨by have := HK1.out; first | omega | exact Nat.le_refl _⟩, ⟨bl_⟩⟩
       ·rw [if_neg c8] at H
        exact absurd H (by simp)
      ·rw [if_neg c7] at H
       have c7b0 : decide (0 < x5_1) = false := decide_eq_false c7
       clear c7
       (first | rw [c7b0] | (simp only [i64_w, i32_w]; rw [c7b0]) | skip)
       have H' := a_ H
       clear H
       go_wp2
       go_meet
       case rel => exact ⟨_, (x4_1), (by first | rfl | (simp; done) | (simp [*]; done)), H', ⟨by have := HK1.out; first | omega | exact Nat.le_refl _⟩, ⟨bl_⟩⟩
     case rest =>
      clear HC6
      try clear c2
      try clear p2
      try clear c3
      try clear c5
      try clear c5b0
      try clear c7
      try clear c7b0
      try clear c8
      try clear c8b0
      try clear c8b1
      try clear c8b2
      try clear p2
      obtain ⟨kq, x4_5, rfl, HA, HJ5, HB⟩ := hcut
      cases kq with
      | zero => exact absurd HA.out (by simp [waterhourref04_Print.j1])
      | succ kj5 =>
       have H := HA.out
       clear HA
       simp only [waterhourref04_Print.j1] at H
       by_cases c9 : 0 ≤ x5_1
       ·rw [if_pos c9] at H
        have c9b0 : decide (0 ≤ x5_1) = true := decide_eq_true c9
        clear c9
        by_cases c10 : x5_1 < (l0.length : Int)
        ·rw [if_pos c10] at H
         have c10b0 : decide (x5_1 < (l0.length : Int)) = true := decide_eq_true c10
         clear c10
         replace H := Option.bind_eq_some_iff.mp H
         obtain ⟨t269, A110, H⟩ := H
         replace H : (if t269.size + 1 ≤ 9223372036854775807 then ((strconv_Itoa.f ((rd_T37 l0 x5_1).f0.f1)).bind fun t271 => (if (t269 ++ (⟨#[45]⟩ : ByteArray)).size + t271.size ≤ 9223372036854775807 then (if x4_5.size + ((t269 ++ (⟨#[45]⟩ : ByteArray)) ++ t271).size ≤ 9223372036854775807 then ((waterhourref04_Known.f ((rd_T37 l0 x5_1).f1.f0) ((rd_T37 l0 x5_1).f1.f1)).bind fun t273 => (if t273 = true then ((strconv_Itoa.f ((rd_T37 l0 x5_1).f1.f0)).bind fun t275 => (if 1 + t275.size ≤ 9223372036854775807 then (if ((⟨#[64]⟩ : ByteArray) ++ t275).size + 1 ≤ 9223372036854775807 then ((strconv_Itoa.f ((rd_T37 l0 x5_1).f1.f1)).bind fun t277 => (if (((⟨#[64]⟩ : ByteArray) ++ t275) ++ (⟨#[45]⟩ : ByteArray)).size + t277.size ≤ 9223372036854775807 then (if (x4_5 ++ ((t269 ++ (⟨#[45]⟩ : ByteArray)) ++ t271)).size + ((((⟨#[64]⟩ : ByteArray) ++ t275) ++ (⟨#[45]⟩ : ByteArray)) ++ t277).size ≤ 9223372036854775807 then (waterhourref04_Print.l0 kj5 l0 ((x4_5 ++ ((t269 ++ (⟨#[45]⟩ : ByteArray)) ++ t271)) ++ ((((⟨#[64]⟩ : ByteArray) ++ t275) ++ (⟨#[45]⟩ : ByteArray)) ++ t277)) (wrap64 (x5_1 + 1))) else (none)) else (none))) else (none)) else (none))) else (waterhourref04_Print.l0 kj5 l0 (x4_5 ++ ((t269 ++ (⟨#[45]⟩ : ByteArray)) ++ t271)) (wrap64 (x5_1 + 1))))) else (none)) else (none))) else (none)) = some (r1, r2) := H
         have A11 := a_ A110
         clear A110
         by_cases c12 : t269.size + 1 ≤ 9223372036854775807
         ·rw [if_pos c12] at H
          have c12b0 := eq_true c12
          have c12b1 : decide (t269.size + 1 ≤ 9223372036854775807) = true := decide_eq_true c12
          try have c12b2 : (9223372036854775807 < t269.size + 1) = False := eq_false (Nat.not_lt.2 c12)
          replace H := Option.bind_eq_some_iff.mp H
          obtain ⟨t271, A130, H⟩ := H
          replace H : (if (t269 ++ (⟨#[45]⟩ : ByteArray)).size + t271.size ≤ 9223372036854775807 then (if x4_5.size + ((t269 ++ (⟨#[45]⟩ : ByteArray)) ++ t271).size ≤ 9223372036854775807 then ((waterhourref04_Known.f ((rd_T37 l0 x5_1).f1.f0) ((rd_T37 l0 x5_1).f1.f1)).bind fun t273 => (if t273 = true then ((strconv_Itoa.f ((rd_T37 l0 x5_1).f1.f0)).bind fun t275 => (if 1 + t275.size ≤ 9223372036854775807 then (if ((⟨#[64]⟩ : ByteArray) ++ t275).size + 1 ≤ 9223372036854775807 then ((strconv_Itoa.f ((rd_T37 l0 x5_1).f1.f1)).bind fun t277 => (if (((⟨#[64]⟩ : ByteArray) ++ t275) ++ (⟨#[45]⟩ : ByteArray)).size + t277.size ≤ 9223372036854775807 then (if (x4_5 ++ ((t269 ++ (⟨#[45]⟩ : ByteArray)) ++ t271)).size + ((((⟨#[64]⟩ : ByteArray) ++ t275) ++ (⟨#[45]⟩ : ByteArray)) ++ t277).size ≤ 9223372036854775807 then (waterhourref04_Print.l0 kj5 l0 ((x4_5 ++ ((t269 ++ (⟨#[45]⟩ : ByteArray)) ++ t271)) ++ ((((⟨#[64]⟩ : ByteArray) ++ t275) ++ (⟨#[45]⟩ : ByteArray)) ++ t277)) (wrap64 (x5_1 + 1))) else (none)) else (none))) else (none)) else (none))) else (waterhourref04_Print.l0 kj5 l0 (x4_5 ++ ((t269 ++ (⟨#[45]⟩ : ByteArray)) ++ t271)) (wrap64 (x5_1 + 1))))) else (none)) else (none)) = some (r1, r2) := H
          have A13 := a_ A130
          clear A130
          by_cases c14 : (t269 ++ (⟨#[45]⟩ : ByteArray)).size + t271.size ≤ 9223372036854775807
          ·rw [if_pos c14] at H
           have c14b0 := eq_true c14
           have c14b1 : decide ((t269 ++ (⟨#[45]⟩ : ByteArray)).size + t271.size ≤ 9223372036854775807) = true := decide_eq_true c14
           try have c14b2 : (9223372036854775807 < (t269 ++ (⟨#[45]⟩ : ByteArray)).size + t271.size) = False := eq_false (Nat.not_lt.2 c14)
           have c14n : (9223372036854775807 < t269.size + 1 + t271.size) = False := eq_false (by have h_ := Nat.not_lt.2 c14; have e1_ : (⟨#[45]⟩ : ByteArray).size = 1 := rfl; have e2_ : (⟨#[64]⟩ : ByteArray).size = 1 := rfl; have e3_ : (⟨#[32]⟩ : ByteArray).size = 1 := rfl; simp only [ByteArray.size_append] at h_; omega)
           by_cases c15 : x4_5.size + ((t269 ++ (⟨#[45]⟩ : ByteArray)) ++ t271).size ≤ 9223372036854775807
           ·rw [if_pos c15] at H
            have c15b0 := eq_true c15
            have c15b1 : decide (x4_5.size + ((t269 ++ (⟨#[45]⟩ : ByteArray)) ++ t271).size ≤ 9223372036854775807) = true := decide_eq_true c15
            try have c15b2 : (9223372036854775807 < x4_5.size + ((t269 ++ (⟨#[45]⟩ : ByteArray)) ++ t271).size) = False := eq_false (Nat.not_lt.2 c15)
            have c15n : (9223372036854775807 < x4_5.size + (t269.size + 1 + t271.size)) = False := eq_false (by have h_ := Nat.not_lt.2 c15; have e1_ : (⟨#[45]⟩ : ByteArray).size = 1 := rfl; have e2_ : (⟨#[64]⟩ : ByteArray).size = 1 := rfl; have e3_ : (⟨#[32]⟩ : ByteArray).size = 1 := rfl; simp only [ByteArray.size_append] at h_; omega)
            replace H := Option.bind_eq_some_iff.mp H
            obtain ⟨t273, A160, H⟩ := H
            replace H : (if t273 = true then ((strconv_Itoa.f ((rd_T37 l0 x5_1).f1.f0)).bind fun t275 => (if 1 + t275.size ≤ 9223372036854775807 then (if ((⟨#[64]⟩ : ByteArray) ++ t275).size + 1 ≤ 9223372036854775807 then ((strconv_Itoa.f ((rd_T37 l0 x5_1).f1.f1)).bind fun t277 => (if (((⟨#[64]⟩ : ByteArray) ++ t275) ++ (⟨#[45]⟩ : ByteArray)).size + t277.size ≤ 9223372036854775807 then (if (x4_5 ++ ((t269 ++ (⟨#[45]⟩ : ByteArray)) ++ t271)).size + ((((⟨#[64]⟩ : ByteArray) ++ t275) ++ (⟨#[45]⟩ : ByteArray)) ++ t277).size ≤ 9223372036854775807 then (waterhourref04_Print.l0 kj5 l0 ((x4_5 ++ ((t269 ++ (⟨#[45]⟩ : ByteArray)) ++ t271)) ++ ((((⟨#[64]⟩ : ByteArray) ++ t275) ++ (⟨#[45]⟩ : ByteArray)) ++ t277)) (wrap64 (x5_1 + 1))) else (none)) else (none))) else (none)) else (none))) else (waterhourref04_Print.l0 kj5 l0 (x4_5 ++ ((t269 ++ (⟨#[45]⟩ : ByteArray)) ++ t271)) (wrap64 (x5_1 + 1)))) = some (r1, r2) := H
            have A16 := a_ A160
            clear A160
            by_cases c17 : t273 = true
            ·subst c17
             have H1 : ((strconv_Itoa.f ((rd_T37 l0 x5_1).f1.f0)).bind fun t275 => (if 1 + t275.size ≤ 9223372036854775807 then (if ((⟨#[64]⟩ : ByteArray) ++ t275).size + 1 ≤ 9223372036854775807 then ((strconv_Itoa.f ((rd_T37 l0 x5_1).f1.f1)).bind fun t277 => (if (((⟨#[64]⟩ : ByteArray) ++ t275) ++ (⟨#[45]⟩ : ByteArray)).size + t277.size ≤ 9223372036854775807 then (if (x4_5 ++ ((t269 ++ (⟨#[45]⟩ : ByteArray)) ++ t271)).size + ((((⟨#[64]⟩ : ByteArray) ++ t275) ++ (⟨#[45]⟩ : ByteArray)) ++ t277).size ≤ 9223372036854775807 then (waterhourref04_Print.l0 kj5 l0 ((x4_5 ++ ((t269 ++ (⟨#[45]⟩ : ByteArray)) ++ t271)) ++ ((((⟨#[64]⟩ : ByteArray) ++ t275) ++ (⟨#[45]⟩ : ByteArray)) ++ t277)) (wrap64 (x5_1 + 1))) else (none)) else (none))) else (none)) else (none))) = some (r1, r2) := by rw [if_pos rfl] at H; exact H
             clear H
             have H := H1
             clear H1
             replace H := Option.bind_eq_some_iff.mp H
             obtain ⟨t275, A180, H⟩ := H
             replace H : (if 1 + t275.size ≤ 9223372036854775807 then (if ((⟨#[64]⟩ : ByteArray) ++ t275).size + 1 ≤ 9223372036854775807 then ((strconv_Itoa.f ((rd_T37 l0 x5_1).f1.f1)).bind fun t277 => (if (((⟨#[64]⟩ : ByteArray) ++ t275) ++ (⟨#[45]⟩ : ByteArray)).size + t277.size ≤ 9223372036854775807 then (if (x4_5 ++ ((t269 ++ (⟨#[45]⟩ : ByteArray)) ++ t271)).size + ((((⟨#[64]⟩ : ByteArray) ++ t275) ++ (⟨#[45]⟩ : ByteArray)) ++ t277).size ≤ 9223372036854775807 then (waterhourref04_Print.l0 kj5 l0 ((x4_5 ++ ((t269 ++ (⟨#[45]⟩ : ByteArray)) ++ t271)) ++ ((((⟨#[64]⟩ : ByteArray) ++ t275) ++ (⟨#[45]⟩ : ByteArray)) ++ t277)) (wrap64 (x5_1 + 1))) else (none)) else (none))) else (none)) else (none)) = some (r1, r2) := H
             have A18 := a_ A180
             clear A180
             by_cases c19 : 1 + t275.size ≤ 9223372036854775807
             ·rw [if_pos c19] at H
              have c19b0 := eq_true c19
              have c19b1 : decide (1 + t275.size ≤ 9223372036854775807) = true := decide_eq_true c19
              try have c19b2 : (9223372036854775807 < 1 + t275.size) = False := eq_false (Nat.not_lt.2 c19)
              by_cases c20 : ((⟨#[64]⟩ : ByteArray) ++ t275).size + 1 ≤ 9223372036854775807
              ·rw [if_pos c20] at H
               have c20b0 := eq_true c20
               have c20b1 : decide (((⟨#[64]⟩ : ByteArray) ++ t275).size + 1 ≤ 9223372036854775807) = true := decide_eq_true c20
               try have c20b2 : (9223372036854775807 < ((⟨#[64]⟩ : ByteArray) ++ t275).size + 1) = False := eq_false (Nat.not_lt.2 c20)
               have c20n : (9223372036854775807 < 1 + t275.size + 1) = False := eq_false (by have h_ := Nat.not_lt.2 c20; have e1_ : (⟨#[45]⟩ : ByteArray).size = 1 := rfl; have e2_ : (⟨#[64]⟩ : ByteArray).size = 1 := rfl; have e3_ : (⟨#[32]⟩ : ByteArray).size = 1 := rfl; simp only [ByteArray.size_append] at h_; omega)
               replace H := Option.bind_eq_some_iff.mp H
               obtain ⟨t277, A210, H⟩ := H
               replace H : (if (((⟨#[64]⟩ : ByteArray) ++ t275) ++ (⟨#[45]⟩ : ByteArray)).size + t277.size ≤ 9223372036854775807 then (if (x4_5 ++ ((t269 ++ (⟨#[45]⟩ : ByteArray)) ++ t271)).size + ((((⟨#[64]⟩ : ByteArray) ++ t275) ++ (⟨#[45]⟩ : ByteArray)) ++ t277).size ≤ 9223372036854775807 then (waterhourref04_Print.l0 kj5 l0 ((x4_5 ++ ((t269 ++ (⟨#[45]⟩ : ByteArray)) ++ t271)) ++ ((((⟨#[64]⟩ : ByteArray) ++ t275) ++ (⟨#[45]⟩ : ByteArray)) ++ t277)) (wrap64 (x5_1 + 1))) else (none)) else (none)) = some (r1, r2) := H
               have A21 := a_ A210
               clear A210
               by_cases c22 : (((⟨#[64]⟩ : ByteArray) ++ t275) ++ (⟨#[45]⟩ : ByteArray)).size + t277.size ≤ 9223372036854775807
               ·rw [if_pos c22] at H
                have c22b0 := eq_true c22
                have c22b1 : decide ((((⟨#[64]⟩ : ByteArray) ++ t275) ++ (⟨#[45]⟩ : ByteArray)).size + t277.size ≤ 9223372036854775807) = true := decide_eq_true c22
                try have c22b2 : (9223372036854775807 < (((⟨#[64]⟩ : ByteArray) ++ t275) ++ (⟨#[45]⟩ : ByteArray)).size + t277.size) = False := eq_false (Nat.not_lt.2 c22)
                have c22n : (9223372036854775807 < 1 + t275.size + 1 + t277.size) = False := eq_false (by have h_ := Nat.not_lt.2 c22; have e1_ : (⟨#[45]⟩ : ByteArray).size = 1 := rfl; have e2_ : (⟨#[64]⟩ : ByteArray).size = 1 := rfl; have e3_ : (⟨#[32]⟩ : ByteArray).size = 1 := rfl; simp only [ByteArray.size_append] at h_; omega)
                by_cases c23 : (x4_5 ++ ((t269 ++ (⟨#[45]⟩ : ByteArray)) ++ t271)).size + ((((⟨#[64]⟩ : ByteArray) ++ t275) ++ (⟨#[45]⟩ : ByteArray)) ++ t277).size ≤ 9223372036854775807
                ·rw [if_pos c23] at H
                 have c23b0 := eq_true c23
                 have c23b1 : decide ((x4_5 ++ ((t269 ++ (⟨#[45]⟩ : ByteArray)) ++ t271)).size + ((((⟨#[64]⟩ : ByteArray) ++ t275) ++ (⟨#[45]⟩ : ByteArray)) ++ t277).size ≤ 9223372036854775807) = true := decide_eq_true c23
                 try have c23b2 : (9223372036854775807 < (x4_5 ++ ((t269 ++ (⟨#[45]⟩ : ByteArray)) ++ t271)).size + ((((⟨#[64]⟩ : ByteArray) ++ t275) ++ (⟨#[45]⟩ : ByteArray)) ++ t277).size) = False := eq_false (Nat.not_lt.2 c23)
                 have c23n : (9223372036854775807 < x4_5.size + (t269.size + 1 + t271.size) + (1 + t275.size + 1 + t277.size)) = False := eq_false (by have h_ := Nat.not_lt.2 c23; have e1_ : (⟨#[45]⟩ : ByteArray).size = 1 := rfl; have e2_ : (⟨#[64]⟩ : ByteArray).size = 1 := rfl; have e3_ : (⟨#[32]⟩ : ByteArray).size = 1 := rfl; simp only [ByteArray.size_append] at h_; omega)
                 have H' := a_ H
                 clear H
                 try go_wp2
                 have n0_ := a_ (below_drew1 HB.out)
                 clear HB
                 have HB := n0_
                 clear n0_
                 have p268 : 0 ≤ (x5_1 : Int) := of_decide_eq_true (by first | (with_reducible assumption) | assumption)
                 have q268 : x5_1 < (l0.length : Int) := of_decide_eq_true (by first | (with_reducible assumption) | assumption)
                 obtain ⟨ad268, e268, hx268_0, hx268_1, hx268_2, hx268_3⟩ := at_T37 HR0.out x5_1 p268 q268
                 have hw268_3 := hx268_3
                 have hw268_2 := hx268_2
                 have hw268_1 := hx268_1
                 have hw268_0 := hx268_0
                 cases e268
                 replace hx268_0 := (HB.out.cell (World.block_lt_of_cell? w _ hx268_0)).trans hx268_0
                 replace hx268_1 := (HB.out.cell (World.block_lt_of_cell? w _ hx268_1)).trans hx268_1
                 replace hx268_2 := (HB.out.cell (World.block_lt_of_cell? w _ hx268_2)).trans hx268_2
                 replace hx268_3 := (HB.out.cell (World.block_lt_of_cell? w _ hx268_3)).trans hx268_3
                 replace p268 := eq_true p268
                 replace q268 := eq_true q268
                 have p270 : 0 ≤ (x5_1 : Int) := of_decide_eq_true (by first | (with_reducible assumption) | assumption)
                 have q270 : x5_1 < (l0.length : Int) := of_decide_eq_true (by first | (with_reducible assumption) | assumption)
                 obtain ⟨ad270, e270, hx270_0, hx270_1, hx270_2, hx270_3⟩ := at_T37 HR0.out x5_1 p270 q270
                 have hw270_3 := hx270_3
                 have hw270_2 := hx270_2
                 have hw270_1 := hx270_1
                 have hw270_0 := hx270_0
                 obtain rfl : ad268 = ad270 := (by injection e270)
                 replace hx270_0 := (HB.out.cell (World.block_lt_of_cell? w _ hx270_0)).trans hx270_0
                 replace hx270_1 := (HB.out.cell (World.block_lt_of_cell? w _ hx270_1)).trans hx270_1
                 replace hx270_2 := (HB.out.cell (World.block_lt_of_cell? w _ hx270_2)).trans hx270_2
                 replace hx270_3 := (HB.out.cell (World.block_lt_of_cell? w _ hx270_3)).trans hx270_3
                 replace p270 := eq_true p270
                 replace q270 := eq_true q270
                 refine start_ (n := 19) (S := fun w' => w'.cell? (ad268.add ((x5_1).toNat * 4)) = some (.int .i64 ((rd_T37 l0 x5_1).f0.f0)) ∧ w'.cell? ⟨(ad268.add ((x5_1).toNat * 4)).block, (ad268.add ((x5_1).toNat * 4)).off + 1, none⟩ = some (.int .i64 ((rd_T37 l0 x5_1).f0.f1)) ∧ w'.cell? ⟨(ad268.add ((x5_1).toNat * 4)).block, (ad268.add ((x5_1).toNat * 4)).off + 2, none⟩ = some (.int .i64 ((rd_T37 l0 x5_1).f1.f0)) ∧ w'.cell? ⟨(ad268.add ((x5_1).toNat * 4)).block, (ad268.add ((x5_1).toNat * 4)).off + 3, none⟩ = some (.int .i64 ((rd_T37 l0 x5_1).f1.f1)) ∧ w'.cell? (ad268.add ((x5_1).toNat * 4)) = some (.int .i64 ((rd_T37 l0 x5_1).f0.f0)) ∧ w'.cell? ⟨(ad268.add ((x5_1).toNat * 4)).block, (ad268.add ((x5_1).toNat * 4)).off + 1, none⟩ = some (.int .i64 ((rd_T37 l0 x5_1).f0.f1)) ∧ w'.cell? ⟨(ad268.add ((x5_1).toNat * 4)).block, (ad268.add ((x5_1).toNat * 4)).off + 2, none⟩ = some (.int .i64 ((rd_T37 l0 x5_1).f1.f0)) ∧ w'.cell? ⟨(ad268.add ((x5_1).toNat * 4)).block, (ad268.add ((x5_1).toNat * 4)).off + 3, none⟩ = some (.int .i64 ((rd_T37 l0 x5_1).f1.f1))) (ds := []) #[false, false, false, false, false, false, false, false, false, false, false, false, false, false, false, false, false, false, false] (by kernel_rfl) rfl rfl ⟨((HB.out.cell (World.block_lt_of_cell? w _ hw268_0)).trans hw268_0), ((HB.out.cell (World.block_lt_of_cell? w _ hw268_1)).trans hw268_1), ((HB.out.cell (World.block_lt_of_cell? w _ hw268_2)).trans hw268_2), ((HB.out.cell (World.block_lt_of_cell? w _ hw268_3)).trans hw268_3), ((HB.out.cell (World.block_lt_of_cell? w _ hw270_0)).trans hw270_0), ((HB.out.cell (World.block_lt_of_cell? w _ hw270_1)).trans hw270_1), ((HB.out.cell (World.block_lt_of_cell? w _ hw270_2)).trans hw270_2), ((HB.out.cell (World.block_lt_of_cell? w _ hw270_3)).trans hw270_3)⟩ (fun hHeld => ?_); refine with_tabW waterhourref04_Print.tab9 waterhourref04_Print.bits9 (fun HT_ HW_ => ?_)
                 generalize wc.drew = w24 at HB hx268_0 hx268_1 hx268_2 hx268_3 hx270_0 hx270_1 hx270_2 hx270_3 hHeld ⊢
                 refine pz_ 0 19 HT_ ?_
                 refine pz_ 1 20 HT_ ?_
                 refine pz_ 2 21 HT_ ?_
                 refine pz_ 3 22 HT_ ?_
                 refine pz_ 4 23 HT_ ?_
                 refine pz_ 5 24 HT_ ?_
                 refine pz_ 9 28 HT_ ?_
                 refine pz_ 10 29 HT_ ?_
                 refine pz_ 11 30 HT_ ?_
                 refine pz_ 12 31 HT_ ?_
                 refine pz_ 13 32 HT_ ?_
                 refine take_ (i := 6) (N := some 25) (v := ?_) (a' := ?_) #[true, true, true, true, true, true, true, false, false, true, true, true, true, true, false, false, false, false, false] rfl rfl (take_ofW HT_.out HW_.out (by kernel_rfl)) (fun _ _ _ h => h) (Or.inl ⟨by rfl, ?_⟩) hHeld ?_ ?_
                 rotate_left
                 ·rintro w' ⟨s0, s1, s2, s3, s4, s5, s6, s7⟩
                  go_simp
                  with_reducible rfl
                 rotate_left
                 ·simp only [Act.put, List.setIfInBounds_toArray, List.set_cons_zero, List.set_cons_succ, i64_w, i32_w]
                  rfl
                 refine take_ (i := 14) (N := some 33) (v := ?_) (a' := ?_) #[true, true, true, true, true, true, true, false, false, true, true, true, true, true, true, false, false, false, false] rfl rfl (take_ofW HT_.out HW_.out (by kernel_rfl)) (fun _ _ _ h => h) (Or.inl ⟨by rfl, ?_⟩) hHeld ?_ ?_
                 rotate_left
                 ·rintro w' ⟨s0, s1, s2, s3, s4, s5, s6, s7⟩
                  go_simp
                  with_reducible rfl
                 rotate_left
                 ·simp only [Act.put, List.setIfInBounds_toArray, List.set_cons_zero, List.set_cons_succ, i64_w, i32_w]
                  rfl
                 refine one_ (i := 7) (N := some 26) #[true, true, true, true, true, true, true, true, false, true, true, true, true, true, true, false, false, false, false] rfl rfl (one_of HT_.out (by kernel_rfl)) (by decide) (fun K hK => ?_)
                 refine goes_ Tryz.func30 (by kernel_rfl) rfl #[.int .i64 ((rd_T37 l0 x5_1).f0.f0)] (by rfl) rfl rfl tm_ ?_
                 with_reducible refine (strconv_Itoa.calls ((rd_T37 l0 x5_1).f0.f0) t269 _ ?side1 A11.out).mono ?_
                 (case side1 => exact TabB.below HT.out bl_)
                 rintro e w25 ⟨rfl, hb⟩
                 refine ⟨_, rfl, ?_⟩
                 have n0_ := a_ (below_step bl_ hb)
                 clear HB
                 have HB := n0_
                 clear n0_
                 (try clear hb)
                 (try clear hb2)
                 (try clear hk)
                 (try clear hi)
                 refine hK.out _ _ ⟨((HB.out.cell (World.block_lt_of_cell? w _ hw268_0)).trans hw268_0), ((HB.out.cell (World.block_lt_of_cell? w _ hw268_1)).trans hw268_1), ((HB.out.cell (World.block_lt_of_cell? w _ hw268_2)).trans hw268_2), ((HB.out.cell (World.block_lt_of_cell? w _ hw268_3)).trans hw268_3), ((HB.out.cell (World.block_lt_of_cell? w _ hw270_0)).trans hw270_0), ((HB.out.cell (World.block_lt_of_cell? w _ hw270_1)).trans hw270_1), ((HB.out.cell (World.block_lt_of_cell? w _ hw270_2)).trans hw270_2), ((HB.out.cell (World.block_lt_of_cell? w _ hw270_3)).trans hw270_3)⟩ (fun hHeld => ?_)
                 clear hK K
                 refine norm_ (a' := ?_) ?_ ?_
                 rotate_left
                 ·show Act.put _ (some 26) _ = _
                  simp only [Act.put, List.setIfInBounds_toArray, List.set_cons_zero, List.set_cons_succ, i64_w, i32_w]
                  rfl
                 refine pz_ 8 27 HT_ ?_
                 refine one_ (i := 15) (N := some 34) #[true, true, true, true, true, true, true, true, true, true, true, true, true, true, true, true, false, false, false] rfl rfl (one_of HT_.out (by kernel_rfl)) (by decide) (fun K hK => ?_)
                 refine goes_ Tryz.func30 (by kernel_rfl) rfl #[.int .i64 ((rd_T37 l0 x5_1).f0.f1)] (by rfl) rfl rfl tm_ ?_
                 with_reducible refine (strconv_Itoa.calls ((rd_T37 l0 x5_1).f0.f1) t271 _ ?side1 A13.out).mono ?_
                 (case side1 => exact TabB.below HT.out bl_)
                 rintro e w26 ⟨rfl, hb⟩
                 refine ⟨_, rfl, ?_⟩
                 have n0_ := a_ (below_step bl_ hb)
                 clear HB
                 have HB := n0_
                 clear n0_
                 (try clear hb)
                 (try clear hb2)
                 (try clear hk)
                 (try clear hi)
                 refine hK.out _ _ ⟨((HB.out.cell (World.block_lt_of_cell? w _ hw268_0)).trans hw268_0), ((HB.out.cell (World.block_lt_of_cell? w _ hw268_1)).trans hw268_1), ((HB.out.cell (World.block_lt_of_cell? w _ hw268_2)).trans hw268_2), ((HB.out.cell (World.block_lt_of_cell? w _ hw268_3)).trans hw268_3), ((HB.out.cell (World.block_lt_of_cell? w _ hw270_0)).trans hw270_0), ((HB.out.cell (World.block_lt_of_cell? w _ hw270_1)).trans hw270_1), ((HB.out.cell (World.block_lt_of_cell? w _ hw270_2)).trans hw270_2), ((HB.out.cell (World.block_lt_of_cell? w _ hw270_3)).trans hw270_3)⟩ (fun hHeld => ?_)
                 clear hK K
                 refine norm_ (a' := ?_) ?_ ?_
                 rotate_left
                 ·show Act.put _ (some 34) _ = _
                  simp only [Act.put, List.setIfInBounds_toArray, List.set_cons_zero, List.set_cons_succ, i64_w, i32_w]
                  rfl
                 refine pz_ 16 35 HT_ ?_
                 refine pz_ 17 36 HT_ ?_
                 refine pz_ 18 4 HT_ ?_
                 refine done_ (done_of HT_.out (by kernel_rfl)) ?_
                 have p272 : 0 ≤ (x5_1 : Int) := of_decide_eq_true (by first | (with_reducible assumption) | assumption)
                 have q272 : x5_1 < (l0.length : Int) := of_decide_eq_true (by first | (with_reducible assumption) | assumption)
                 obtain ⟨ad272, e272, hx272_0, hx272_1, hx272_2, hx272_3⟩ := at_T37 HR0.out x5_1 p272 q272
                 obtain rfl : ad268 = ad272 := (by injection e272)
                 replace hx272_0 := (HB.out.cell (World.block_lt_of_cell? w _ hx272_0)).trans hx272_0
                 replace hx272_1 := (HB.out.cell (World.block_lt_of_cell? w _ hx272_1)).trans hx272_1
                 replace hx272_2 := (HB.out.cell (World.block_lt_of_cell? w _ hx272_2)).trans hx272_2
                 replace hx272_3 := (HB.out.cell (World.block_lt_of_cell? w _ hx272_3)).trans hx272_3
                 replace p272 := eq_true p272
                 replace q272 := eq_true q272
                 try go_wp2_with (first | ((with_reducible refine gate_callee (f := 31) rfl ?_); refine goesL_ (some 42) rfl rfl Tryz.func31 (by kernel_rfl) rfl #[.agg #[.int .i64 ((rd_T37 l0 x5_1).f1.f0), .int .i64 ((rd_T37 l0 x5_1).f1.f1)]] rfl tm_ ?_; (with_reducible refine (waterhourref04_Known.calls ((rd_T37 l0 x5_1).f1.f0) ((rd_T37 l0 x5_1).f1.f1) true _ A16.out).mono ?_); rintro e w27 ⟨rfl, hb⟩; refine ⟨_, rfl, ?_⟩; have n0_ := a_ (below_step bl_ hb); clear HB; have HB := n0_; clear n0_; (try clear hb); (try clear hb2); (try clear hk); (try clear hi)))
                 have n0_ := a_ (below_drew1 HB.out)
                 clear HB
                 have HB := n0_
                 clear n0_
                 have p274 : 0 ≤ (x5_1 : Int) := of_decide_eq_true (by first | (with_reducible assumption) | assumption)
                 have q274 : x5_1 < (l0.length : Int) := of_decide_eq_true (by first | (with_reducible assumption) | assumption)
                 obtain ⟨ad274, e274, hx274_0, hx274_1, hx274_2, hx274_3⟩ := at_T37 HR0.out x5_1 p274 q274
                 have hw274_3 := hx274_3
                 have hw274_2 := hx274_2
                 have hw274_1 := hx274_1
                 have hw274_0 := hx274_0
                 obtain rfl : ad268 = ad274 := (by injection e274)
                 replace hx274_0 := (HB.out.cell (World.block_lt_of_cell? w _ hx274_0)).trans hx274_0
                 replace hx274_1 := (HB.out.cell (World.block_lt_of_cell? w _ hx274_1)).trans hx274_1
                 replace hx274_2 := (HB.out.cell (World.block_lt_of_cell? w _ hx274_2)).trans hx274_2
                 replace hx274_3 := (HB.out.cell (World.block_lt_of_cell? w _ hx274_3)).trans hx274_3
                 replace p274 := eq_true p274
                 replace q274 := eq_true q274
                 have p276 : 0 ≤ (x5_1 : Int) := of_decide_eq_true (by first | (with_reducible assumption) | assumption)
                 have q276 : x5_1 < (l0.length : Int) := of_decide_eq_true (by first | (with_reducible assumption) | assumption)
                 obtain ⟨ad276, e276, hx276_0, hx276_1, hx276_2, hx276_3⟩ := at_T37 HR0.out x5_1 p276 q276
                 have hw276_3 := hx276_3
                 have hw276_2 := hx276_2
                 have hw276_1 := hx276_1
                 have hw276_0 := hx276_0
                 obtain rfl : ad268 = ad276 := (by injection e276)
                 replace hx276_0 := (HB.out.cell (World.block_lt_of_cell? w _ hx276_0)).trans hx276_0
                 replace hx276_1 := (HB.out.cell (World.block_lt_of_cell? w _ hx276_1)).trans hx276_1
                 replace hx276_2 := (HB.out.cell (World.block_lt_of_cell? w _ hx276_2)).trans hx276_2
                 replace hx276_3 := (HB.out.cell (World.block_lt_of_cell? w _ hx276_3)).trans hx276_3
                 replace p276 := eq_true p276
                 replace q276 := eq_true q276
                 refine start_ (n := 20) (S := fun w' => w'.cell? (ad268.add ((x5_1).toNat * 4)) = some (.int .i64 ((rd_T37 l0 x5_1).f0.f0)) ∧ w'.cell? ⟨(ad268.add ((x5_1).toNat * 4)).block, (ad268.add ((x5_1).toNat * 4)).off + 1, none⟩ = some (.int .i64 ((rd_T37 l0 x5_1).f0.f1)) ∧ w'.cell? ⟨(ad268.add ((x5_1).toNat * 4)).block, (ad268.add ((x5_1).toNat * 4)).off + 2, none⟩ = some (.int .i64 ((rd_T37 l0 x5_1).f1.f0)) ∧ w'.cell? ⟨(ad268.add ((x5_1).toNat * 4)).block, (ad268.add ((x5_1).toNat * 4)).off + 3, none⟩ = some (.int .i64 ((rd_T37 l0 x5_1).f1.f1)) ∧ w'.cell? (ad268.add ((x5_1).toNat * 4)) = some (.int .i64 ((rd_T37 l0 x5_1).f0.f0)) ∧ w'.cell? ⟨(ad268.add ((x5_1).toNat * 4)).block, (ad268.add ((x5_1).toNat * 4)).off + 1, none⟩ = some (.int .i64 ((rd_T37 l0 x5_1).f0.f1)) ∧ w'.cell? ⟨(ad268.add ((x5_1).toNat * 4)).block, (ad268.add ((x5_1).toNat * 4)).off + 2, none⟩ = some (.int .i64 ((rd_T37 l0 x5_1).f1.f0)) ∧ w'.cell? ⟨(ad268.add ((x5_1).toNat * 4)).block, (ad268.add ((x5_1).toNat * 4)).off + 3, none⟩ = some (.int .i64 ((rd_T37 l0 x5_1).f1.f1))) (ds := []) #[false, false, false, false, false, false, false, false, false, false, false, false, false, false, false, false, false, false, false, false] (by kernel_rfl) rfl rfl ⟨((HB.out.cell (World.block_lt_of_cell? w _ hw274_0)).trans hw274_0), ((HB.out.cell (World.block_lt_of_cell? w _ hw274_1)).trans hw274_1), ((HB.out.cell (World.block_lt_of_cell? w _ hw274_2)).trans hw274_2), ((HB.out.cell (World.block_lt_of_cell? w _ hw274_3)).trans hw274_3), ((HB.out.cell (World.block_lt_of_cell? w _ hw276_0)).trans hw276_0), ((HB.out.cell (World.block_lt_of_cell? w _ hw276_1)).trans hw276_1), ((HB.out.cell (World.block_lt_of_cell? w _ hw276_2)).trans hw276_2), ((HB.out.cell (World.block_lt_of_cell? w _ hw276_3)).trans hw276_3)⟩ (fun hHeld => ?_); refine with_tabW waterhourref04_Print.tab11 waterhourref04_Print.bits11 (fun HT_ HW_ => ?_)
                 generalize w27.drew = w28 at HB hx274_0 hx274_1 hx274_2 hx274_3 hx276_0 hx276_1 hx276_2 hx276_3 hHeld ⊢
                 refine pz_ 0 43 HT_ ?_
                 refine pz_ 1 44 HT_ ?_
                 refine pz_ 2 45 HT_ ?_
                 refine pz_ 3 46 HT_ ?_
                 refine pz_ 4 47 HT_ ?_
                 refine pz_ 5 48 HT_ ?_
                 refine pz_ 10 53 HT_ ?_
                 refine pz_ 11 54 HT_ ?_
                 refine pz_ 12 55 HT_ ?_
                 refine pz_ 13 56 HT_ ?_
                 refine pz_ 14 57 HT_ ?_
                 refine take_ (i := 6) (N := some 49) (v := ?_) (a' := ?_) #[true, true, true, true, true, true, true, false, false, false, true, true, true, true, true, false, false, false, false, false] rfl rfl (take_ofW HT_.out HW_.out (by kernel_rfl)) (fun _ _ _ h => h) (Or.inl ⟨by rfl, ?_⟩) hHeld ?_ ?_
                 rotate_left
                 ·rintro w' ⟨s0, s1, s2, s3, s4, s5, s6, s7⟩
                  go_simp
                  with_reducible rfl
                 rotate_left
                 ·simp only [Act.put, List.setIfInBounds_toArray, List.set_cons_zero, List.set_cons_succ, i64_w, i32_w]
                  rfl
                 refine take_ (i := 15) (N := some 58) (v := ?_) (a' := ?_) #[true, true, true, true, true, true, true, false, false, false, true, true, true, true, true, true, false, false, false, false] rfl rfl (take_ofW HT_.out HW_.out (by kernel_rfl)) (fun _ _ _ h => h) (Or.inl ⟨by rfl, ?_⟩) hHeld ?_ ?_
                 rotate_left
                 ·rintro w' ⟨s0, s1, s2, s3, s4, s5, s6, s7⟩
                  go_simp
                  with_reducible rfl
                 rotate_left
                 ·simp only [Act.put, List.setIfInBounds_toArray, List.set_cons_zero, List.set_cons_succ, i64_w, i32_w]
                  rfl
                 refine one_ (i := 7) (N := some 50) #[true, true, true, true, true, true, true, true, false, false, true, true, true, true, true, true, false, false, false, false] rfl rfl (one_of HT_.out (by kernel_rfl)) (by decide) (fun K hK => ?_)
                 refine goes_ Tryz.func30 (by kernel_rfl) rfl #[.int .i64 ((rd_T37 l0 x5_1).f1.f0)] (by rfl) rfl rfl tm_ ?_
                 with_reducible refine (strconv_Itoa.calls ((rd_T37 l0 x5_1).f1.f0) t275 _ ?side1 A18.out).mono ?_
                 (case side1 => exact TabB.below HT.out bl_)
                 rintro e w29 ⟨rfl, hb⟩
                 refine ⟨_, rfl, ?_⟩
                 have n0_ := a_ (below_step bl_ hb)
                 clear HB
                 have HB := n0_
                 clear n0_
                 (try clear hb)
                 (try clear hb2)
                 (try clear hk)
                 (try clear hi)
                 refine hK.out _ _ ⟨((HB.out.cell (World.block_lt_of_cell? w _ hw274_0)).trans hw274_0), ((HB.out.cell (World.block_lt_of_cell? w _ hw274_1)).trans hw274_1), ((HB.out.cell (World.block_lt_of_cell? w _ hw274_2)).trans hw274_2), ((HB.out.cell (World.block_lt_of_cell? w _ hw274_3)).trans hw274_3), ((HB.out.cell (World.block_lt_of_cell? w _ hw276_0)).trans hw276_0), ((HB.out.cell (World.block_lt_of_cell? w _ hw276_1)).trans hw276_1), ((HB.out.cell (World.block_lt_of_cell? w _ hw276_2)).trans hw276_2), ((HB.out.cell (World.block_lt_of_cell? w _ hw276_3)).trans hw276_3)⟩ (fun hHeld => ?_)
                 clear hK K
                 refine norm_ (a' := ?_) ?_ ?_
                 rotate_left
                 ·show Act.put _ (some 50) _ = _
                  simp only [Act.put, List.setIfInBounds_toArray, List.set_cons_zero, List.set_cons_succ, i64_w, i32_w]
                  rfl
                 refine pz_ 8 51 HT_ ?_
                 refine pz_ 9 52 HT_ ?_
                 refine one_ (i := 16) (N := some 59) #[true, true, true, true, true, true, true, true, true, true, true, true, true, true, true, true, true, false, false, false] rfl rfl (one_of HT_.out (by kernel_rfl)) (by decide) (fun K hK => ?_)
                 refine goes_ Tryz.func30 (by kernel_rfl) rfl #[.int .i64 ((rd_T37 l0 x5_1).f1.f1)] (by rfl) rfl rfl tm_ ?_
                 with_reducible refine (strconv_Itoa.calls ((rd_T37 l0 x5_1).f1.f1) t277 _ ?side1 A21.out).mono ?_
                 (case side1 => exact TabB.below HT.out bl_)
                 rintro e w30 ⟨rfl, hb⟩
                 refine ⟨_, rfl, ?_⟩
                 have n0_ := a_ (below_step bl_ hb)
                 clear HB
                 have HB := n0_
                 clear n0_
                 (try clear hb)
                 (try clear hb2)
                 (try clear hk)
                 (try clear hi)
                 refine hK.out _ _ ⟨((HB.out.cell (World.block_lt_of_cell? w _ hw274_0)).trans hw274_0), ((HB.out.cell (World.block_lt_of_cell? w _ hw274_1)).trans hw274_1), ((HB.out.cell (World.block_lt_of_cell? w _ hw274_2)).trans hw274_2), ((HB.out.cell (World.block_lt_of_cell? w _ hw274_3)).trans hw274_3), ((HB.out.cell (World.block_lt_of_cell? w _ hw276_0)).trans hw276_0), ((HB.out.cell (World.block_lt_of_cell? w _ hw276_1)).trans hw276_1), ((HB.out.cell (World.block_lt_of_cell? w _ hw276_2)).trans hw276_2), ((HB.out.cell (World.block_lt_of_cell? w _ hw276_3)).trans hw276_3)⟩ (fun hHeld => ?_)
                 clear hK K
                 refine norm_ (a' := ?_) ?_ ?_
                 rotate_left
                 ·show Act.put _ (some 59) _ = _
                  simp only [Act.put, List.setIfInBounds_toArray, List.set_cons_zero, List.set_cons_succ, i64_w, i32_w]
                  rfl
                 refine pz_ 17 60 HT_ ?_
                 refine pz_ 18 61 HT_ ?_
                 refine pz_ 19 4 HT_ ?_
                 refine done_ (done_of HT_.out (by kernel_rfl)) ?_
                 try go_wp2
                 go_roundg kj5
                 case measure => have := HK1.out; have := HJ5.out; omega
                 case rel => exact ⟨((x4_5 ++ ((t269 ++ (⟨#[45]⟩ : ByteArray)) ++ t271)) ++ ((((⟨#[64]⟩ : ByteArray) ++ t275) ++ (⟨#[45]⟩ : ByteArray)) ++ t277)), (wrap64 (x5_1 + 1)), (by first | rfl | (simp; done) | (simp [*]; done)), (by first | rfl | (simp; done) | (simp [*]; done)), H', ⟨by have := HK1.out; have := HJ5.out; omega⟩, ⟨bl_⟩⟩
                ·rw [if_neg c23] at H
                 exact absurd H (by simp)
               ·rw [if_neg c22] at H
                exact absurd H (by simp)
              ·rw [if_neg c20] at H
               exact absurd H (by simp)
             ·rw [if_neg c19] at H
              exact absurd H (by simp)
            ·replace c17 := Bool.eq_false_iff.mpr c17
             subst c17
             have H1 : (waterhourref04_Print.l0 kj5 l0 (x4_5 ++ ((t269 ++ (⟨#[45]⟩ : ByteArray)) ++ t271)) (wrap64 (x5_1 + 1))) = some (r1, r2) := by rw [if_neg (show ¬ (false = true) by decide)] at H; exact H
             clear H
             have H := H1
             clear H1
             have H' := a_ H
             clear H
             try go_wp2
             have n0_ := a_ (below_drew1 HB.out)
             clear HB
             have HB := n0_
             clear n0_
             have p268 : 0 ≤ (x5_1 : Int) := of_decide_eq_true (by first | (with_reducible assumption) | assumption)
             have q268 : x5_1 < (l0.length : Int) := of_decide_eq_true (by first | (with_reducible assumption) | assumption)
             obtain ⟨ad268, e268, hx268_0, hx268_1, hx268_2, hx268_3⟩ := at_T37 HR0.out x5_1 p268 q268
             have hw268_3 := hx268_3
             have hw268_2 := hx268_2
             have hw268_1 := hx268_1
             have hw268_0 := hx268_0
             cases e268
             replace hx268_0 := (HB.out.cell (World.block_lt_of_cell? w _ hx268_0)).trans hx268_0
             replace hx268_1 := (HB.out.cell (World.block_lt_of_cell? w _ hx268_1)).trans hx268_1
             replace hx268_2 := (HB.out.cell (World.block_lt_of_cell? w _ hx268_2)).trans hx268_2
             replace hx268_3 := (HB.out.cell (World.block_lt_of_cell? w _ hx268_3)).trans hx268_3
             replace p268 := eq_true p268
             replace q268 := eq_true q268
             have p270 : 0 ≤ (x5_1 : Int) := of_decide_eq_true (by first | (with_reducible assumption) | assumption)
             have q270 : x5_1 < (l0.length : Int) := of_decide_eq_true (by first | (with_reducible assumption) | assumption)
             obtain ⟨ad270, e270, hx270_0, hx270_1, hx270_2, hx270_3⟩ := at_T37 HR0.out x5_1 p270 q270
             have hw270_3 := hx270_3
             have hw270_2 := hx270_2
             have hw270_1 := hx270_1
             have hw270_0 := hx270_0
             obtain rfl : ad268 = ad270 := (by injection e270)
             replace hx270_0 := (HB.out.cell (World.block_lt_of_cell? w _ hx270_0)).trans hx270_0
             replace hx270_1 := (HB.out.cell (World.block_lt_of_cell? w _ hx270_1)).trans hx270_1
             replace hx270_2 := (HB.out.cell (World.block_lt_of_cell? w _ hx270_2)).trans hx270_2
             replace hx270_3 := (HB.out.cell (World.block_lt_of_cell? w _ hx270_3)).trans hx270_3
             replace p270 := eq_true p270
             replace q270 := eq_true q270
             refine start_ (n := 19) (S := fun w' => w'.cell? (ad268.add ((x5_1).toNat * 4)) = some (.int .i64 ((rd_T37 l0 x5_1).f0.f0)) ∧ w'.cell? ⟨(ad268.add ((x5_1).toNat * 4)).block, (ad268.add ((x5_1).toNat * 4)).off + 1, none⟩ = some (.int .i64 ((rd_T37 l0 x5_1).f0.f1)) ∧ w'.cell? ⟨(ad268.add ((x5_1).toNat * 4)).block, (ad268.add ((x5_1).toNat * 4)).off + 2, none⟩ = some (.int .i64 ((rd_T37 l0 x5_1).f1.f0)) ∧ w'.cell? ⟨(ad268.add ((x5_1).toNat * 4)).block, (ad268.add ((x5_1).toNat * 4)).off + 3, none⟩ = some (.int .i64 ((rd_T37 l0 x5_1).f1.f1)) ∧ w'.cell? (ad268.add ((x5_1).toNat * 4)) = some (.int .i64 ((rd_T37 l0 x5_1).f0.f0)) ∧ w'.cell? ⟨(ad268.add ((x5_1).toNat * 4)).block, (ad268.add ((x5_1).toNat * 4)).off + 1, none⟩ = some (.int .i64 ((rd_T37 l0 x5_1).f0.f1)) ∧ w'.cell? ⟨(ad268.add ((x5_1).toNat * 4)).block, (ad268.add ((x5_1).toNat * 4)).off + 2, none⟩ = some (.int .i64 ((rd_T37 l0 x5_1).f1.f0)) ∧ w'.cell? ⟨(ad268.add ((x5_1).toNat * 4)).block, (ad268.add ((x5_1).toNat * 4)).off + 3, none⟩ = some (.int .i64 ((rd_T37 l0 x5_1).f1.f1))) (ds := []) #[false, false, false, false, false, false, false, false, false, false, false, false, false, false, false, false, false, false, false] (by kernel_rfl) rfl rfl ⟨((HB.out.cell (World.block_lt_of_cell? w _ hw268_0)).trans hw268_0), ((HB.out.cell (World.block_lt_of_cell? w _ hw268_1)).trans hw268_1), ((HB.out.cell (World.block_lt_of_cell? w _ hw268_2)).trans hw268_2), ((HB.out.cell (World.block_lt_of_cell? w _ hw268_3)).trans hw268_3), ((HB.out.cell (World.block_lt_of_cell? w _ hw270_0)).trans hw270_0), ((HB.out.cell (World.block_lt_of_cell? w _ hw270_1)).trans hw270_1), ((HB.out.cell (World.block_lt_of_cell? w _ hw270_2)).trans hw270_2), ((HB.out.cell (World.block_lt_of_cell? w _ hw270_3)).trans hw270_3)⟩ (fun hHeld => ?_); refine with_tabW waterhourref04_Print.tab9 waterhourref04_Print.bits9 (fun HT_ HW_ => ?_)
             generalize wc.drew = w31 at HB hx268_0 hx268_1 hx268_2 hx268_3 hx270_0 hx270_1 hx270_2 hx270_3 hHeld ⊢
             refine pz_ 0 19 HT_ ?_
             refine pz_ 1 20 HT_ ?_
             refine pz_ 2 21 HT_ ?_
             refine pz_ 3 22 HT_ ?_
             refine pz_ 4 23 HT_ ?_
             refine pz_ 5 24 HT_ ?_
             refine pz_ 9 28 HT_ ?_
             refine pz_ 10 29 HT_ ?_
             refine pz_ 11 30 HT_ ?_
             refine pz_ 12 31 HT_ ?_
             refine pz_ 13 32 HT_ ?_
             refine take_ (i := 6) (N := some 25) (v := ?_) (a' := ?_) #[true, true, true, true, true, true, true, false, false, true, true, true, true, true, false, false, false, false, false] rfl rfl (take_ofW HT_.out HW_.out (by kernel_rfl)) (fun _ _ _ h => h) (Or.inl ⟨by rfl, ?_⟩) hHeld ?_ ?_
             rotate_left
             ·rintro w' ⟨s0, s1, s2, s3, s4, s5, s6, s7⟩
              go_simp
              with_reducible rfl
             rotate_left
             ·simp only [Act.put, List.setIfInBounds_toArray, List.set_cons_zero, List.set_cons_succ, i64_w, i32_w]
              rfl
             refine take_ (i := 14) (N := some 33) (v := ?_) (a' := ?_) #[true, true, true, true, true, true, true, false, false, true, true, true, true, true, true, false, false, false, false] rfl rfl (take_ofW HT_.out HW_.out (by kernel_rfl)) (fun _ _ _ h => h) (Or.inl ⟨by rfl, ?_⟩) hHeld ?_ ?_
             rotate_left
             ·rintro w' ⟨s0, s1, s2, s3, s4, s5, s6, s7⟩
              go_simp
              with_reducible rfl
             rotate_left
             ·simp only [Act.put, List.setIfInBounds_toArray, List.set_cons_zero, List.set_cons_succ, i64_w, i32_w]
              rfl
             refine one_ (i := 7) (N := some 26) #[true, true, true, true, true, true, true, true, false, true, true, true, true, true, true, false, false, false, false] rfl rfl (one_of HT_.out (by kernel_rfl)) (by decide) (fun K hK => ?_)
             refine goes_ Tryz.func30 (by kernel_rfl) rfl #[.int .i64 ((rd_T37 l0 x5_1).f0.f0)] (by rfl) rfl rfl tm_ ?_
             with_reducible refine (strconv_Itoa.calls ((rd_T37 l0 x5_1).f0.f0) t269 _ ?side1 A11.out).mono ?_
             (case side1 => exact TabB.below HT.out bl_)
             rintro e w32 ⟨rfl, hb⟩
             refine ⟨_, rfl, ?_⟩
             have n0_ := a_ (below_step bl_ hb)
             clear HB
             have HB := n0_
             clear n0_
             (try clear hb)
             (try clear hb2)
             (try clear hk)
             (try clear hi)
             refine hK.out _ _ ⟨((HB.out.cell (World.block_lt_of_cell? w _ hw268_0)).trans hw268_0), ((HB.out.cell (World.block_lt_of_cell? w _ hw268_1)).trans hw268_1), ((HB.out.cell (World.block_lt_of_cell? w _ hw268_2)).trans hw268_2), ((HB.out.cell (World.block_lt_of_cell? w _ hw268_3)).trans hw268_3), ((HB.out.cell (World.block_lt_of_cell? w _ hw270_0)).trans hw270_0), ((HB.out.cell (World.block_lt_of_cell? w _ hw270_1)).trans hw270_1), ((HB.out.cell (World.block_lt_of_cell? w _ hw270_2)).trans hw270_2), ((HB.out.cell (World.block_lt_of_cell? w _ hw270_3)).trans hw270_3)⟩ (fun hHeld => ?_)
             clear hK K
             refine norm_ (a' := ?_) ?_ ?_
             rotate_left
             ·show Act.put _ (some 26) _ = _
              simp only [Act.put, List.setIfInBounds_toArray, List.set_cons_zero, List.set_cons_succ, i64_w, i32_w]
              rfl
             refine pz_ 8 27 HT_ ?_
             refine one_ (i := 15) (N := some 34) #[true, true, true, true, true, true, true, true, true, true, true, true, true, true, true, true, false, false, false] rfl rfl (one_of HT_.out (by kernel_rfl)) (by decide) (fun K hK => ?_)
             refine goes_ Tryz.func30 (by kernel_rfl) rfl #[.int .i64 ((rd_T37 l0 x5_1).f0.f1)] (by rfl) rfl rfl tm_ ?_
             with_reducible refine (strconv_Itoa.calls ((rd_T37 l0 x5_1).f0.f1) t271 _ ?side1 A13.out).mono ?_
             (case side1 => exact TabB.below HT.out bl_)
             rintro e w33 ⟨rfl, hb⟩
             refine ⟨_, rfl, ?_⟩
             have n0_ := a_ (below_step bl_ hb)
             clear HB
             have HB := n0_
             clear n0_
             (try clear hb)
             (try clear hb2)
             (try clear hk)
             (try clear hi)
             refine hK.out _ _ ⟨((HB.out.cell (World.block_lt_of_cell? w _ hw268_0)).trans hw268_0), ((HB.out.cell (World.block_lt_of_cell? w _ hw268_1)).trans hw268_1), ((HB.out.cell (World.block_lt_of_cell? w _ hw268_2)).trans hw268_2), ((HB.out.cell (World.block_lt_of_cell? w _ hw268_3)).trans hw268_3), ((HB.out.cell (World.block_lt_of_cell? w _ hw270_0)).trans hw270_0), ((HB.out.cell (World.block_lt_of_cell? w _ hw270_1)).trans hw270_1), ((HB.out.cell (World.block_lt_of_cell? w _ hw270_2)).trans hw270_2), ((HB.out.cell (World.block_lt_of_cell? w _ hw270_3)).trans hw270_3)⟩ (fun hHeld => ?_)
             clear hK K
             refine norm_ (a' := ?_) ?_ ?_
             rotate_left
             ·show Act.put _ (some 34) _ = _
              simp only [Act.put, List.setIfInBounds_toArray, List.set_cons_zero, List.set_cons_succ, i64_w, i32_w]
              rfl
             refine pz_ 16 35 HT_ ?_
             refine pz_ 17 36 HT_ ?_
             refine pz_ 18 4 HT_ ?_
             refine done_ (done_of HT_.out (by kernel_rfl)) ?_
             have p272 : 0 ≤ (x5_1 : Int) := of_decide_eq_true (by first | (with_reducible assumption) | assumption)
             have q272 : x5_1 < (l0.length : Int) := of_decide_eq_true (by first | (with_reducible assumption) | assumption)
             obtain ⟨ad272, e272, hx272_0, hx272_1, hx272_2, hx272_3⟩ := at_T37 HR0.out x5_1 p272 q272
             obtain rfl : ad268 = ad272 := (by injection e272)
             replace hx272_0 := (HB.out.cell (World.block_lt_of_cell? w _ hx272_0)).trans hx272_0
             replace hx272_1 := (HB.out.cell (World.block_lt_of_cell? w _ hx272_1)).trans hx272_1
             replace hx272_2 := (HB.out.cell (World.block_lt_of_cell? w _ hx272_2)).trans hx272_2
             replace hx272_3 := (HB.out.cell (World.block_lt_of_cell? w _ hx272_3)).trans hx272_3
             replace p272 := eq_true p272
             replace q272 := eq_true q272
             try go_wp2_with (first | ((with_reducible refine gate_callee (f := 31) rfl ?_); refine goesL_ (some 42) rfl rfl Tryz.func31 (by kernel_rfl) rfl #[.agg #[.int .i64 ((rd_T37 l0 x5_1).f1.f0), .int .i64 ((rd_T37 l0 x5_1).f1.f1)]] rfl tm_ ?_; (with_reducible refine (waterhourref04_Known.calls ((rd_T37 l0 x5_1).f1.f0) ((rd_T37 l0 x5_1).f1.f1) false _ A16.out).mono ?_); rintro e w34 ⟨rfl, hb⟩; refine ⟨_, rfl, ?_⟩; have n0_ := a_ (below_step bl_ hb); clear HB; have HB := n0_; clear n0_; (try clear hb); (try clear hb2); (try clear hk); (try clear hi)))
             go_roundg kj5
             case measure => have := HK1.out; have := HJ5.out; omega
             case rel => exact ⟨(x4_5 ++ ((t269 ++ (⟨#[45]⟩ : ByteArray)) ++ t271)), (wrap64 (x5_1 + 1)), (by first | rfl | (simp; done) | (simp [*]; done)), (by first | rfl | (simp; done) | (simp [*]; done)), H', ⟨by have := HK1.out; have := HJ5.out; omega⟩, ⟨bl_⟩⟩
           ·rw [if_neg c15] at H
            exact absurd H (by simp)
          ·rw [if_neg c14] at H
           exact absurd H (by simp)
         ·rw [if_neg c12] at H
          exact absurd H (by simp)
        ·rw [if_neg c10] at H
         exact absurd H (by simp)
       ·rw [if_neg c9] at H
        exact absurd H (by simp)
    ·rw [if_neg c5] at H
     have c5b0 : decide (x5_1 < (l0.length : Int)) = false := decide_eq_false c5
     clear c5
     simp only [Option.some.injEq, Prod.mk.injEq] at H
     obtain ⟨rfl, rfl⟩ := H
     go_wp2
     go_ret2
     exact ⟨by first | rfl | (simp [errW_none, errW_some] <;> rfl) | (simp [*, errW_none, errW_some] <;> rfl), bl_⟩
 ·replace c3 := Bool.eq_false_iff.mpr c3
  subst c3
  have H1 : (some ((⟨#[]⟩ : ByteArray), 40)) = some (r1, r2) := by rw [if_neg (show ¬ (false = true) by decide)] at H; exact H
  clear H
  have H := H1
  clear H1
  simp only [Option.some.injEq, Prod.mk.injEq] at H
  obtain ⟨rfl, rfl⟩ := H
  go_enter Tryz.func7, Tryz.ntmps7
  go_wp2_with (first | ((with_reducible refine gate_callee (f := 29) rfl ?_); refine goesL_ (some 7) rfl rfl Tryz.func29 (by kernel_rfl) rfl #[.slice A0 l0.length c0] rfl tm_ ?_; (with_reducible refine (waterhourref04_Valid.calls k _ _ l0 false _ ?side1 ?side2 A2.out).mono ?_); (case side1 => exact cl_ HR0.out); (case side2 => exact HC0.out); rintro e w35 ⟨rfl, hb⟩; refine ⟨_, rfl, ?_⟩; have n0_ := a_ (below_step bl_ hb); clear HB; have HB := n0_; clear n0_; (try clear hb); (try clear hb2); (try clear hk); (try clear hi)))
  go_ret2
  exact ⟨by first | rfl | (simp [errW_none, errW_some] <;> rfl) | (simp [*, errW_none, errW_some] <;> rfl), bl_⟩

end Go.Proofs.YtgiihjcpgjpkcaaGreatDoor.Q
