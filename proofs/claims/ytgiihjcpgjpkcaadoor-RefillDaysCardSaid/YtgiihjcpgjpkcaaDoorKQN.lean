/- Contracts of functions that RefillDays reaches: each Go function as a plain Lean function and the proof that its call answers just so. -/
import Derived.Test.YtgiihjcpgjpkcaaDoorKQ0
import Derived.Test.YtgiihjcpgjpkcaaDoorKQA
import Derived.Test.YtgiihjcpgjpkcaaDoorKQB
import Derived.Test.YtgiihjcpgjpkcaaDoorKQE
import Derived.Test.YtgiihjcpgjpkcaaDoorKHStr
namespace Go.Proofs.YtgiihjcpgjpkcaaDoor.Q
open Go.RowKit Go.Proofs.YtgiihjcpgjpkcaaDoorW.PrintWords Go.Proofs.YtgiihjcpgjpkcaaDoorW.PrintLast Go.Proofs.YtgiihjcpgjpkcaaDoorW.PrintMore
attribute [local go_sem] max2_int min2_int max_two min_two max_three min_three max_four min_four   -- for this text's walks alone
set_option linter.unusedVariables false
set_option linter.unusedSimpArgs false
attribute [local go_sem high] eqA49
def refill_span.f (a0_0 : Int) (a0_1 : Int) : Option (ByteArray) := (strconv_Itoa.f a0_0).bind fun t242 => (if t242.size + 1 ≤ 9223372036854775807 then ((strconv_Itoa.f a0_1).bind fun t243 => (if (t242 ++ (⟨#[45]⟩ : ByteArray)).size + t243.size ≤ 9223372036854775807 then (some ((t242 ++ (⟨#[45]⟩ : ByteArray)) ++ t243)) else (none))) else (none))
def refill_span.T1 : Bool × List (List Nat × List Nat) := (true, [([], []), ([0], [0]), ([1], [1]), ([2], [2]), ([], []), ([4], [4]), ([5, 2], [5]), ([3, 6], [3, 6]), ([7, 6, 0, 1, 2, 3, 4, 5, 6, 7], [7])])
def refill_span.B1 : List Nat := [0, 1, 3, 7, 0, 16, 55, 127, 255]
theorem refill_span.tab1 : rtab .any (opsOf Tryd.f92 1) = refill_span.T1 := by kernel_rfl
theorem refill_span.bits1 : waitsOk refill_span.T1.2 refill_span.B1 = true := by kernel_rfl
set_option maxHeartbeats 8000000 in
set_option maxRecDepth 100000 in
theorem refill_span.calls (a0_0 : Int) (a0_1 : Int) (r : ByteArray) (w : World) (ht : TabB w) (h : refill_span.f a0_0 a0_1 = some r) :
  Calls Tryd.prog 92 #[.agg #[.int .i64 a0_0, .int .i64 a0_1]] w fun e w' => e = .returned (.string r) ∧ Below w.heap.size w w' := by
 have hu49 := Tryd.underlying49
 have HT := a_ ht
 clear ht
 have HB := a_ (Below.refl w.heap.size w)
 have H : ((strconv_Itoa.f a0_0).bind fun t242 => (if t242.size + 1 ≤ 9223372036854775807 then ((strconv_Itoa.f a0_1).bind fun t243 => (if (t242 ++ (⟨#[45]⟩ : ByteArray)).size + t243.size ≤ 9223372036854775807 then (some ((t242 ++ (⟨#[45]⟩ : ByteArray)) ++ t243)) else (none))) else (none))) = some r := h
 clear h
 replace H := Option.bind_eq_some_iff.mp H
 obtain ⟨t242, A20, H⟩ := H
 replace H : (if t242.size + 1 ≤ 9223372036854775807 then ((strconv_Itoa.f a0_1).bind fun t243 => (if (t242 ++ (⟨#[45]⟩ : ByteArray)).size + t243.size ≤ 9223372036854775807 then (some ((t242 ++ (⟨#[45]⟩ : ByteArray)) ++ t243)) else (none))) else (none)) = some r := H
 have A2 := a_ A20
 clear A20
 by_cases c3 : t242.size + 1 ≤ 9223372036854775807
 ·rw [if_pos c3] at H
  have c3b0 := eq_true c3
  have c3b1 : decide (t242.size + 1 ≤ 9223372036854775807) = true := decide_eq_true c3
  try have c3b2 : (9223372036854775807 < t242.size + 1) = False := eq_false (Nat.not_lt.2 c3)
  replace H := Option.bind_eq_some_iff.mp H
  obtain ⟨t243, A40, H⟩ := H
  replace H : (if (t242 ++ (⟨#[45]⟩ : ByteArray)).size + t243.size ≤ 9223372036854775807 then (some ((t242 ++ (⟨#[45]⟩ : ByteArray)) ++ t243)) else (none)) = some r := H
  have A4 := a_ A40
  clear A40
  by_cases c5 : (t242 ++ (⟨#[45]⟩ : ByteArray)).size + t243.size ≤ 9223372036854775807
  ·rw [if_pos c5] at H
   have c5b0 := eq_true c5
   have c5b1 : decide ((t242 ++ (⟨#[45]⟩ : ByteArray)).size + t243.size ≤ 9223372036854775807) = true := decide_eq_true c5
   try have c5b2 : (9223372036854775807 < (t242 ++ (⟨#[45]⟩ : ByteArray)).size + t243.size) = False := eq_false (Nat.not_lt.2 c5)
   have c5n : (9223372036854775807 < t242.size + 1 + t243.size) = False := eq_false (by have h_ := Nat.not_lt.2 c5; simp only [ByteArray.size_append] at h_; exact h_)
   obtain rfl := Option.some.inj H
   go_enter Tryd.func92, Tryd.ntmps92
   try go_wp2_with (first | ((with_reducible refine gate_dst (N := 1) rfl ?_); refine box_event ?hg (N := 1) ?hd (cs := #[.int .i64 a0_0, .int .i64 a0_1]) (t := 49) ?hr ?_; (case hd => rfl); (case hg => rfl); (case hr => first | (go_simp; done) | (go_simp; rfl)); intro gb241 hg w6 hbox hb; have n0_ := a_ (below_step bl_ hb); have n1_ := a_ (hbox); have n2_ := a_ ((bz_ (w := w) hg)); have n3_ := a_ ((bz_ (w := w) hg)); clear HB; have HB := n0_; have BK241 := n1_; have GW241 := n2_; have GE241 := n3_; clear n0_ n1_ n2_ n3_; clear hb hbox hg))
   have n0_ := a_ (blk_drew BK241.out)
   have n1_ := a_ (below_drew1 HB.out)
   clear BK241
   clear HB
   have BK241 := n0_
   have HB := n1_
   clear n0_ n1_
   refine start_ (n := 9) (S := fun w' => w'.cell? ⟨gb241, 0, none⟩ = some (.int .i64 a0_0) ∧ w'.cell? ⟨gb241, 1, none⟩ = some (.int .i64 a0_1)) (ds := []) #[false, false, false, false, false, false, false, false, false] (by kernel_rfl) rfl rfl ⟨(blk_cell BK241.out 0).trans rfl, (blk_cell BK241.out 1).trans rfl⟩ (fun hHeld => ?_); refine with_tabW refill_span.tab1 refill_span.bits1 (fun HT_ HW_ => ?_)
   generalize w6.drew = w7 at BK241 HB hHeld ⊢
   refine pz_ 0 3 HT_ ?_
   refine pz_ 4 7 HT_ ?_
   refine take_ (i := 1) (N := some 4) (v := ?_) (a' := ?_) #[true, true, false, false, true, false, false, false, false] rfl rfl (take_ofW HT_.out HW_.out (by kernel_rfl)) (fun _ _ _ h => h) (Or.inl ⟨by rfl, ?_⟩) hHeld ?_ ?_
   rotate_left
   ·rintro w' ⟨s0, s1⟩
    go_simp
    with_reducible rfl
   rotate_left
   ·simp only [Act.put, List.setIfInBounds_toArray, List.set_cons_zero, List.set_cons_succ, i64_w, i32_w]
    rfl
   refine take_ (i := 5) (N := some 8) (v := ?_) (a' := ?_) #[true, true, false, false, true, true, false, false, false] rfl rfl (take_ofW HT_.out HW_.out (by kernel_rfl)) (fun _ _ _ h => h) (Or.inl ⟨by rfl, ?_⟩) hHeld ?_ ?_
   rotate_left
   ·rintro w' ⟨s0, s1⟩
    go_simp
    with_reducible rfl
   rotate_left
   ·simp only [Act.put, List.setIfInBounds_toArray, List.set_cons_zero, List.set_cons_succ, i64_w, i32_w]
    rfl
   refine one_ (i := 2) (N := some 5) #[true, true, true, false, true, true, false, false, false] rfl rfl (one_of HT_.out (by kernel_rfl)) (by decide) (fun K hK => ?_)
   refine goes_ Tryd.func100 (by kernel_rfl) rfl #[.int .i64 a0_0] (by rfl) rfl rfl tm_ ?_
   with_reducible refine (strconv_Itoa.calls a0_0 t242 _ ?side1 A2.out).mono ?_
   (case side1 => exact TabB.below HT.out bl_)
   rintro e w8 ⟨rfl, hb⟩
   refine ⟨_, rfl, ?_⟩
   have n0_ := a_ (bb_ BK241.out hb)
   have n1_ := a_ (below_step bl_ hb)
   clear BK241
   clear HB
   have BK241 := n0_
   have HB := n1_
   clear n0_ n1_
   (try clear hb)
   (try clear hb2)
   (try clear hk)
   (try clear hi)
   refine hK.out _ _ ⟨(blk_cell BK241.out 0).trans rfl, (blk_cell BK241.out 1).trans rfl⟩ (fun hHeld => ?_)
   clear hK K
   refine norm_ (a' := ?_) ?_ ?_
   rotate_left
   ·show Act.put _ (some 5) _ = _
    simp only [Act.put, List.setIfInBounds_toArray, List.set_cons_zero, List.set_cons_succ, i64_w, i32_w]
    rfl
   refine pz_ 3 6 HT_ ?_
   refine one_ (i := 6) (N := some 9) #[true, true, true, true, true, true, true, false, false] rfl rfl (one_of HT_.out (by kernel_rfl)) (by decide) (fun K hK => ?_)
   refine goes_ Tryd.func100 (by kernel_rfl) rfl #[.int .i64 a0_1] (by rfl) rfl rfl tm_ ?_
   with_reducible refine (strconv_Itoa.calls a0_1 t243 _ ?side1 A4.out).mono ?_
   (case side1 => exact TabB.below HT.out bl_)
   rintro e w9 ⟨rfl, hb⟩
   refine ⟨_, rfl, ?_⟩
   have n0_ := a_ (bb_ BK241.out hb)
   have n1_ := a_ (below_step bl_ hb)
   clear BK241
   clear HB
   have BK241 := n0_
   have HB := n1_
   clear n0_ n1_
   (try clear hb)
   (try clear hb2)
   (try clear hk)
   (try clear hi)
   refine hK.out _ _ ⟨(blk_cell BK241.out 0).trans rfl, (blk_cell BK241.out 1).trans rfl⟩ (fun hHeld => ?_)
   clear hK K
   refine norm_ (a' := ?_) ?_ ?_
   rotate_left
   ·show Act.put _ (some 9) _ = _
    simp only [Act.put, List.setIfInBounds_toArray, List.set_cons_zero, List.set_cons_succ, i64_w, i32_w]
    rfl
   refine pz_ 7 10 HT_ ?_
   refine pz_ 8 2 HT_ ?_
   refine done_ (done_of HT_.out (by kernel_rfl)) ?_
   try go_wp2
   go_ret
   exact ⟨by first | rfl | (simp [errW_none, errW_some] <;> rfl) | (simp [*, errW_none, errW_some] <;> rfl), bl_⟩
  ·rw [if_neg c5] at H
   exact absurd H (by simp)
 ·rw [if_neg c3] at H
  exact absurd H (by simp)
def refill_Print.l0 : Nat → List ByteArray → List (S51) → Int → Int → Option (ByteArray × Int)
 | 0, _, _, _, _ => none
 | k + 1, x5, x14, x15, x16 => if x16 < x15 then (if 0 ≤ x16 then (if x16 < (x14.length : Int) then ((refill_span.f ((rd_T51 x14 x16).f0.f0) ((rd_T51 x14 x16).f0.f1)).bind fun t248 => ((refill_unknown.f).bind fun bt249 => (if (!(((rd_T51 x14 x16).f1.f0) == bt249.1) || (!(((rd_T51 x14 x16).f1.f1) == bt249.2))) = true then ((refill_span.f ((rd_T51 x14 x16).f1.f0) ((rd_T51 x14 x16).f1.f1)).bind fun t251 => (if 1 + t251.size ≤ 9223372036854775807 then (if t248.size + ((⟨#[64]⟩ : ByteArray) ++ t251).size ≤ 9223372036854775807 then (if x5.length < 8796093022208 then (refill_Print.l0 k (x5 ++ [t248 ++ ((⟨#[64]⟩ : ByteArray) ++ t251)]) x14 x15 (wrap64 (x16 + 1))) else (none)) else (none)) else (none))) else (if x5.length < 8796093022208 then (refill_Print.l0 k (x5 ++ [t248]) x14 x15 (wrap64 (x16 + 1))) else (none))))) else (none)) else (none)) else ((strings_Join.f x5 (⟨#[32]⟩ : ByteArray)).bind fun t245 => (some (t245, 0)))
def refill_Print.f (k : Nat) (l0 : List (S51)) : Option (ByteArray × Int) := (refill_Check.f k l0).bind fun t244 => (if t244 = 0 then (refill_Print.l0 k ([] : List ByteArray) l0 (l0.length : Int) 0) else (some ((⟨#[]⟩ : ByteArray), t244)))
theorem refill_Print.mono_l : ∀ k, (∀ y0 y1 y2 y3, LeO (refill_Print.l0 k y0 y1 y2 y3) (refill_Print.l0 (k + 1) y0 y1 y2 y3))
 | 0 => fun _ _ _ _ r h => by simp [refill_Print.l0] at h
 | k + 1 => by
  have ih0 := refill_Print.mono_l k
  ·intro y0 y1 y2 y3
   unfold refill_Print.l0
   repeat' first
   | (with_reducible exact ih0 _ _ _ _)
   | (with_reducible exact refill_Check.mono _ _)
   | (with_reducible exact LeO.refl _)
   | (with_reducible exact LeO.none _)
   | (with_reducible refine LeO.ite ?_ ?_)
   | (with_reducible refine LeO.bind ?_ (fun _ => ?_))
   | exact ih0 _ _ _ _
   | exact refill_Check.mono _ _
   | exact LeO.none _
   | refine LeO.ite ?_ ?_
   | refine LeO.bind ?_ (fun _ => ?_)
theorem refill_Print.mono : ∀ a0 k, LeO (refill_Print.f k a0) (refill_Print.f (k + 1) a0) := by
 intro a0 k
 have ih0 := refill_Print.mono_l k
 unfold refill_Print.f
 repeat' first
   | (with_reducible exact ih0 _ _ _ _)
   | (with_reducible exact refill_Check.mono _ _)
   | (with_reducible exact LeO.refl _)
   | (with_reducible exact LeO.none _)
   | (with_reducible refine LeO.ite ?_ ?_)
   | (with_reducible refine LeO.bind ?_ (fun _ => ?_))
   | exact ih0 _ _ _ _
   | exact refill_Check.mono _ _
   | exact LeO.none _
   | refine LeO.ite ?_ ?_
   | refine LeO.bind ?_ (fun _ => ?_)
set_option maxHeartbeats 8000000 in
set_option maxRecDepth 100000 in
theorem refill_Print.calls (k : Nat) (A0 : Option Addr) (c0 : Nat) (l0 : List (S51)) (r1 : ByteArray) (r2 : Int) (w : World) (hr0 : Kd.C k51 w A0 l0.length l0) (hc0 : l0.length ≤ c0) (ht : TabB w) (h : refill_Print.f k l0 = some (r1, r2)) :
  Calls Tryd.prog 62 #[.slice A0 l0.length c0] w fun e w' => e = .returned (.tuple #[.string r1, .int .i64 r2]) ∧ Below w.heap.size w w' := by
 have hu51 := Tryd.underlying51
 have hu49 := Tryd.underlying49
 have HR0 := a_ hr0
 have HC0 := a_ hc0
 clear hr0 hc0
 have HT := a_ ht
 clear ht
 have HB := a_ (Below.refl w.heap.size w)
 have H : ((refill_Check.f k l0).bind fun t244 => (if t244 = 0 then (refill_Print.l0 k ([] : List ByteArray) l0 (l0.length : Int) 0) else (some ((⟨#[]⟩ : ByteArray), t244)))) = some (r1, r2) := h
 clear h
 replace H := Option.bind_eq_some_iff.mp H
 obtain ⟨t244, A20, H⟩ := H
 replace H : (if t244 = 0 then (refill_Print.l0 k ([] : List ByteArray) l0 (l0.length : Int) 0) else (some ((⟨#[]⟩ : ByteArray), t244))) = some (r1, r2) := H
 have A2 := a_ A20
 clear A20
 by_cases c3 : t244 = 0
 ·rw [if_pos c3] at H
  have c3b0 : (t244 == 0) = true := beq_iff_eq.mpr c3
  have c3b1 : (t244 != 0) = false := bne_eq_false_iff_eq.mpr c3
  clear c3
  have H' := a_ H
  clear H
  go_enter Tryd.func62, Tryd.ntmps62
  go_wp2_with (first | ((with_reducible refine gate_callee (f := 47) rfl ?_); refine goesL_ (some 10) rfl rfl Tryd.func47 (by kernel_rfl) rfl #[.slice A0 l0.length c0] rfl tm_ ?_; (with_reducible refine (refill_Check.calls k _ _ l0 t244 _ ?side1 ?side2 A2.out).mono ?_); (case side1 => exact cl_ HR0.out); (case side2 => exact HC0.out); rintro e w4 ⟨rfl, hb⟩; refine ⟨_, rfl, ?_⟩; have n0_ := a_ (below_step bl_ hb); clear HB; have HB := n0_; clear n0_; (try clear hb); (try clear hb2); (try clear hk); (try clear hi)))
  go_loopg [5, 16] k (fun kq v5 v16 w' => ∃ (x5_1 : List ByteArray) (x16_1 : Int), v16 = .int .i64 x16_1 ∧ Aside0 (refill_Print.l0 kq x5_1 l0 (l0.length : Int) x16_1 = some (r1, r2)) ∧ Aside0 (kq ≤ k) ∧ Aside0 (Kd.R Kd.string 9 w' w.heap.size (fun _ => True) v5 x5_1) ∧ Aside0 (Below w.heap.size w w'))
  case atStart => exact ⟨(([] : List ByteArray)), (0), (by first | rfl | (simp; done) | (simp [*]; done)), H', ⟨Nat.le_refl _⟩, ⟨by first | exact Kd.R_nil _ _ _ _ _ | exact Kd.N_nil _ _ _ _ _ | exact Kd.V_nil _ _ _ _ _ | exact Kd.Q_nil _ _ _ _ _ | exact Kd.S_nil _ _ _ _ _⟩, ⟨bl_⟩⟩
  case round =>
   clear H'
   try clear p2
   try clear c3
   try clear c3b0
   try clear c3b1
   try clear c4
   obtain ⟨x5_1, x16_1, rfl, HA, HK1, HO_5, HB⟩ := hrel
   cases gk with
   | zero => exact absurd HA.out (by simp [refill_Print.l0])
   | succ k1 =>
    have H := HA.out
    clear HA
    simp only [refill_Print.l0] at H
    by_cases c5 : x16_1 < (l0.length : Int)
    ·rw [if_pos c5] at H
     have c5b0 : decide (x16_1 < (l0.length : Int)) = true := decide_eq_true c5
     clear c5
     by_cases c6 : 0 ≤ x16_1
     ·rw [if_pos c6] at H
      have c6b0 : decide (0 ≤ x16_1) = true := decide_eq_true c6
      clear c6
      by_cases c7 : x16_1 < (l0.length : Int)
      ·rw [if_pos c7] at H
       have c7b0 : decide (x16_1 < (l0.length : Int)) = true := decide_eq_true c7
       clear c7
       replace H := Option.bind_eq_some_iff.mp H
       obtain ⟨t248, A80, H⟩ := H
       replace H : ((refill_unknown.f).bind fun bt249 => (if (!(((rd_T51 l0 x16_1).f1.f0) == bt249.1) || (!(((rd_T51 l0 x16_1).f1.f1) == bt249.2))) = true then ((refill_span.f ((rd_T51 l0 x16_1).f1.f0) ((rd_T51 l0 x16_1).f1.f1)).bind fun t251 => (if 1 + t251.size ≤ 9223372036854775807 then (if t248.size + ((⟨#[64]⟩ : ByteArray) ++ t251).size ≤ 9223372036854775807 then (if x5_1.length < 8796093022208 then (refill_Print.l0 k1 (x5_1 ++ [t248 ++ ((⟨#[64]⟩ : ByteArray) ++ t251)]) l0 (l0.length : Int) (wrap64 (x16_1 + 1))) else (none)) else (none)) else (none))) else (if x5_1.length < 8796093022208 then (refill_Print.l0 k1 (x5_1 ++ [t248]) l0 (l0.length : Int) (wrap64 (x16_1 + 1))) else (none)))) = some (r1, r2) := H
       have A8 := a_ A80
       clear A80
       replace H := Option.bind_eq_some_iff.mp H
       obtain ⟨⟨t249, t250⟩, A90, H⟩ := H
       replace H : (if (!(((rd_T51 l0 x16_1).f1.f0) == t249) || (!(((rd_T51 l0 x16_1).f1.f1) == t250))) = true then ((refill_span.f ((rd_T51 l0 x16_1).f1.f0) ((rd_T51 l0 x16_1).f1.f1)).bind fun t251 => (if 1 + t251.size ≤ 9223372036854775807 then (if t248.size + ((⟨#[64]⟩ : ByteArray) ++ t251).size ≤ 9223372036854775807 then (if x5_1.length < 8796093022208 then (refill_Print.l0 k1 (x5_1 ++ [t248 ++ ((⟨#[64]⟩ : ByteArray) ++ t251)]) l0 (l0.length : Int) (wrap64 (x16_1 + 1))) else (none)) else (none)) else (none))) else (if x5_1.length < 8796093022208 then (refill_Print.l0 k1 (x5_1 ++ [t248]) l0 (l0.length : Int) (wrap64 (x16_1 + 1))) else (none))) = some (r1, r2) := H
       have A9 := a_ A90
       clear A90
       by_cases c10 : (!(((rd_T51 l0 x16_1).f1.f0) == t249) || (!(((rd_T51 l0 x16_1).f1.f1) == t250))) = true
       ·rw [if_pos c10] at H
        have c10b0 : (!(((rd_T51 l0 x16_1).f1.f0) == t249) || (!(((rd_T51 l0 x16_1).f1.f1) == t250))) = true := c10
        clear c10
        replace H := Option.bind_eq_some_iff.mp H
        obtain ⟨t251, A110, H⟩ := H
        replace H : (if 1 + t251.size ≤ 9223372036854775807 then (if t248.size + ((⟨#[64]⟩ : ByteArray) ++ t251).size ≤ 9223372036854775807 then (if x5_1.length < 8796093022208 then (refill_Print.l0 k1 (x5_1 ++ [t248 ++ ((⟨#[64]⟩ : ByteArray) ++ t251)]) l0 (l0.length : Int) (wrap64 (x16_1 + 1))) else (none)) else (none)) else (none)) = some (r1, r2) := H
        have A11 := a_ A110
        clear A110
        by_cases c12 : 1 + t251.size ≤ 9223372036854775807
        ·rw [if_pos c12] at H
         have c12b0 := eq_true c12
         have c12b1 : decide (1 + t251.size ≤ 9223372036854775807) = true := decide_eq_true c12
         try have c12b2 : (9223372036854775807 < 1 + t251.size) = False := eq_false (Nat.not_lt.2 c12)
         by_cases c13 : t248.size + ((⟨#[64]⟩ : ByteArray) ++ t251).size ≤ 9223372036854775807
         ·rw [if_pos c13] at H
          have c13b0 := eq_true c13
          have c13b1 : decide (t248.size + ((⟨#[64]⟩ : ByteArray) ++ t251).size ≤ 9223372036854775807) = true := decide_eq_true c13
          try have c13b2 : (9223372036854775807 < t248.size + ((⟨#[64]⟩ : ByteArray) ++ t251).size) = False := eq_false (Nat.not_lt.2 c13)
          have c13n : (9223372036854775807 < t248.size + (1 + t251.size)) = False := eq_false (by have h_ := Nat.not_lt.2 c13; simp only [ByteArray.size_append] at h_; exact h_)
          by_cases c14 : x5_1.length < 8796093022208
          ·rw [if_pos c14] at H
           have LMc14 := a_ c14
           clear c14
           obtain ⟨y252, hy252⟩ : ∃ y_ : List ByteArray, y_ = (x5_1 ++ [t248 ++ ((⟨#[64]⟩ : ByteArray) ++ t251)]) := ⟨_, rfl⟩
           replace H : (refill_Print.l0 k1 y252 l0 (l0.length : Int) (wrap64 (x16_1 + 1))) = some (r1, r2) := by first | (rw [hy252]; with_reducible exact H) | (have H2_ := (Option.bind_some _ _).symm.trans H; rw [hy252]; with_reducible exact H2_) | (have H2_ := (Option.bind_some _ _).symm.trans H; with_reducible exact H2_) | with_reducible exact H | (rw [hy252]; exact H) | exact H
           have Ny252 := a_ hy252
           clear hy252
           have H' := a_ H
           clear H
           have p246 : 0 ≤ (x16_1 : Int) := of_decide_eq_true (by first | (with_reducible assumption) | assumption)
           have q246 : x16_1 < (l0.length : Int) := of_decide_eq_true (by first | (with_reducible assumption) | assumption)
           obtain ⟨ad246, e246, hx246_0, hx246_1, hx246_2, hx246_3⟩ := at_T51 HR0.out x16_1 p246 q246
           cases e246
           replace hx246_0 := (HB.out.cell (World.block_lt_of_cell? w _ hx246_0)).trans hx246_0
           replace hx246_1 := (HB.out.cell (World.block_lt_of_cell? w _ hx246_1)).trans hx246_1
           replace hx246_2 := (HB.out.cell (World.block_lt_of_cell? w _ hx246_2)).trans hx246_2
           replace hx246_3 := (HB.out.cell (World.block_lt_of_cell? w _ hx246_3)).trans hx246_3
           replace p246 := eq_true p246
           replace q246 := eq_true q246
           try go_wp2_with (first | ((with_reducible refine gate_dst (N := 7) rfl ?_); refine box_event ?hg (N := 7) ?hd (cs := #[.int .i64 0, .int .i64 0, .int .i64 0, .int .i64 0]) (t := 51) ?hr ?_; (case hd => rfl); (case hg => rfl); (case hr => first | (go_simp; done) | (go_simp; rfl)); intro gb247 hg w15 hbox hb; have n0_ := a_ (Kd.R_below (rl_ HO_5.out) hb); have n1_ := a_ (below_step bl_ hb); have n2_ := a_ (hbox); have n3_ := a_ ((bz_ (w := w) hg)); have n4_ := a_ ((bz_ (w := w) hg)); clear HO_5; clear HB; have HO_5 := n0_; have HB := n1_; have BK247 := n2_; have GW247 := n3_; have GE247 := n4_; clear n0_ n1_ n2_ n3_ n4_; clear hb hbox hg; have hcz16_0 : w15.cell? ⟨gb247, 0, none⟩ = some (.int .i64 0) := (blk_cell BK247.out 0).trans rfl; have hcz16_1 : w15.cell? ⟨gb247, 1, none⟩ = some (.int .i64 0) := (blk_cell BK247.out 1).trans rfl; have hcz16_2 : w15.cell? ⟨gb247, 2, none⟩ = some (.int .i64 0) := (blk_cell BK247.out 2).trans rfl; have hcz16_3 : w15.cell? ⟨gb247, 3, none⟩ = some (.int .i64 0) := (blk_cell BK247.out 3).trans rfl; have hfz16_0 := blk_frozen BK247.out 0; have hfz16_1 := blk_frozen BK247.out 1; have hfz16_2 := blk_frozen BK247.out 2; have hfz16_3 := blk_frozen BK247.out 3) | ((with_reducible refine gate_callee (f := 92) rfl ?_); refine goesL_ (some 22) rfl rfl Tryd.func92 (by kernel_rfl) rfl #[.agg #[.int .i64 ((rd_T51 l0 x16_1).f0.f0), .int .i64 ((rd_T51 l0 x16_1).f0.f1)]] rfl tm_ ?_; (with_reducible refine (refill_span.calls ((rd_T51 l0 x16_1).f0.f0) ((rd_T51 l0 x16_1).f0.f1) t248 _ ?side1 A8.out).mono ?_); (case side1 => exact TabB.below HT.out bl_); rintro e w17 ⟨rfl, hb⟩; refine ⟨_, rfl, ?_⟩; have n0_ := a_ (Kd.R_below (rl_ (Kd.R_mono (Kd.R_far (p := ⟨gb247, 3, none⟩) (Kd.R_far (p := ⟨gb247, 2, none⟩) (Kd.R_far (p := ⟨gb247, 1, none⟩) (Kd.R_far (p := ⟨gb247, 0, none⟩) (Kd.R_types HO_5.out BK247.out (by decide)) (fun _ hk => hk.2) (.int .i64 ((rd_T51 l0 x16_1).f0.f0))) (fun _ hk => hk.2) (.int .i64 ((rd_T51 l0 x16_1).f0.f1))) (fun _ hk => hk.2) (.int .i64 ((rd_T51 l0 x16_1).f1.f0))) (fun _ hk => hk.2) (.int .i64 ((rd_T51 l0 x16_1).f1.f1))) (fun _ h_ => h_.1))) hb); have n1_ := a_ (blk_below (g := gb247) (o := .cells #[.int .i64 ((rd_T51 l0 x16_1).f0.f0), .int .i64 ((rd_T51 l0 x16_1).f0.f1), .int .i64 ((rd_T51 l0 x16_1).f1.f0), .int .i64 ((rd_T51 l0 x16_1).f1.f1)] 51 (0, 0)) (by (with_reducible repeat (first | refine blk_drewN ?_ _ | refine blk_drew ?_ | refine blk_alloc ?_ _)); refine blk_put (cs := #[.int .i64 ((rd_T51 l0 x16_1).f0.f0), .int .i64 ((rd_T51 l0 x16_1).f0.f1), .int .i64 ((rd_T51 l0 x16_1).f1.f0), .int .i64 0]) ?_ 3 _ rfl; (with_reducible repeat (first | refine blk_drewN ?_ _ | refine blk_drew ?_ | refine blk_alloc ?_ _)); refine blk_put (cs := #[.int .i64 ((rd_T51 l0 x16_1).f0.f0), .int .i64 ((rd_T51 l0 x16_1).f0.f1), .int .i64 0, .int .i64 0]) ?_ 2 _ rfl; (with_reducible repeat (first | refine blk_drewN ?_ _ | refine blk_drew ?_ | refine blk_alloc ?_ _)); refine blk_put (cs := #[.int .i64 ((rd_T51 l0 x16_1).f0.f0), .int .i64 0, .int .i64 0, .int .i64 0]) ?_ 1 _ rfl; (with_reducible repeat (first | refine blk_drewN ?_ _ | refine blk_drew ?_ | refine blk_alloc ?_ _)); refine blk_put (cs := #[.int .i64 0, .int .i64 0, .int .i64 0, .int .i64 0]) ?_ 0 _ rfl; (with_reducible repeat (first | refine blk_drewN ?_ _ | refine blk_drew ?_ | refine blk_alloc ?_ _)); exact BK247.out) hb); have n2_ := a_ (below_step bl_ hb); clear HO_5; clear BK247; clear HB; have HO_5 := n0_; have BK247 := n1_; have HB := n2_; clear n0_ n1_ n2_; (try clear hb); (try clear hb2); (try clear hk); (try clear hi)))
           have n0_ := a_ (Kd.R_drew HO_5.out)
           have n1_ := a_ (blk_drew BK247.out)
           have n2_ := a_ (below_drew1 HB.out)
           clear HO_5
           clear BK247
           clear HB
           have HO_5 := n0_
           have BK247 := n1_
           have HB := n2_
           clear n0_ n1_ n2_
           refine start_ (n := 4) (S := fun w' => w'.cell? ⟨gb247, 0, none⟩ = some (.int .i64 ((rd_T51 l0 x16_1).f0.f0)) ∧ w'.cell? ⟨gb247, 1, none⟩ = some (.int .i64 ((rd_T51 l0 x16_1).f0.f1)) ∧ w'.cell? ⟨gb247, 2, none⟩ = some (.int .i64 ((rd_T51 l0 x16_1).f1.f0)) ∧ w'.cell? ⟨gb247, 3, none⟩ = some (.int .i64 ((rd_T51 l0 x16_1).f1.f1))) (ds := []) #[false, false, false, false] (by kernel_rfl) rfl rfl ⟨(blk_cell BK247.out 0).trans rfl, (blk_cell BK247.out 1).trans rfl, (blk_cell BK247.out 2).trans rfl, (blk_cell BK247.out 3).trans rfl⟩ (fun hHeld => ?_)
           generalize w17.drew = w18 at HO_5 BK247 HB hHeld ⊢
           refine pure_ (i := 0) (N := some 23) (v := ?_) (a' := ?_) #[true, false, false, false] rfl rfl (by kernel_rfl) (fun _ _ _ h => h) (Or.inl ⟨by rfl, ?_⟩) ?_ ?_
           rotate_left
           ·intro w'
            go_simp
            with_reducible rfl
           rotate_left
           ·simp only [Act.put, List.setIfInBounds_toArray, List.set_cons_zero, List.set_cons_succ, i64_w, i32_w]
            rfl
           refine take_ (i := 1) (N := some 24) (v := ?_) (a' := ?_) #[true, true, false, false] rfl rfl (by kernel_rfl) (fun _ _ _ h => h) (Or.inl ⟨by rfl, ?_⟩) hHeld ?_ ?_
           rotate_left
           ·rintro w' ⟨s0, s1, s2, s3⟩
            go_simp
            with_reducible rfl
           rotate_left
           ·simp only [Act.put, List.setIfInBounds_toArray, List.set_cons_zero, List.set_cons_succ, i64_w, i32_w]
            rfl
           refine one_ (i := 2) (N := some 25) #[true, true, true, false] rfl rfl (by kernel_rfl) (by decide) (fun K hK => ?_)
           refine goes_ Tryd.func82 (by kernel_rfl) rfl #[] (by rfl) rfl rfl tm_ ?_
           with_reducible refine (refill_unknown.calls  t249 t250 _ A9.out).mono ?_
           rintro e w19 ⟨rfl, hb⟩
           refine ⟨_, rfl, ?_⟩
           have n0_ := a_ (Kd.R_below (rl_ HO_5.out) hb)
           have n1_ := a_ (bb_ BK247.out hb)
           have n2_ := a_ (below_step bl_ hb)
           clear HO_5
           clear BK247
           clear HB
           have HO_5 := n0_
           have BK247 := n1_
           have HB := n2_
           clear n0_ n1_ n2_
           (try clear hb)
           (try clear hb2)
           (try clear hk)
           (try clear hi)
           refine hK.out _ _ ⟨(blk_cell BK247.out 0).trans rfl, (blk_cell BK247.out 1).trans rfl, (blk_cell BK247.out 2).trans rfl, (blk_cell BK247.out 3).trans rfl⟩ (fun hHeld => ?_)
           clear hK K
           refine norm_ (a' := ?_) ?_ ?_
           rotate_left
           ·show Act.put _ (some 25) _ = _
            simp only [Act.put, List.setIfInBounds_toArray, List.set_cons_zero, List.set_cons_succ, i64_w, i32_w]
            rfl
           refine pure_ (i := 3) (N := some 26) (v := ?_) (a' := ?_) #[true, true, true, true] rfl rfl (by kernel_rfl) (fun _ _ _ h => h) (Or.inl ⟨by rfl, ?_⟩) ?_ ?_
           rotate_left
           ·intro w'
            go_simp
            with_reducible rfl
           rotate_left
           ·simp only [Act.put, List.setIfInBounds_toArray, List.set_cons_zero, List.set_cons_succ, i64_w, i32_w]
            rfl
           refine done_ (by kernel_rfl) ?_
           have hcz20_0 : w19.cell? ⟨gb247, 0, none⟩ = some (.int .i64 ((rd_T51 l0 x16_1).f0.f0)) := (blk_cell BK247.out 0).trans rfl
           have hcz20_1 : w19.cell? ⟨gb247, 1, none⟩ = some (.int .i64 ((rd_T51 l0 x16_1).f0.f1)) := (blk_cell BK247.out 1).trans rfl
           have hcz20_2 : w19.cell? ⟨gb247, 2, none⟩ = some (.int .i64 ((rd_T51 l0 x16_1).f1.f0)) := (blk_cell BK247.out 2).trans rfl
           have hcz20_3 : w19.cell? ⟨gb247, 3, none⟩ = some (.int .i64 ((rd_T51 l0 x16_1).f1.f1)) := (blk_cell BK247.out 3).trans rfl
           have hfz20_0 := blk_frozen BK247.out 0
           have hfz20_1 := blk_frozen BK247.out 1
           have hfz20_2 := blk_frozen BK247.out 2
           have hfz20_3 := blk_frozen BK247.out 3
           try go_wp2_with (first | ((with_reducible refine gate_callee (f := 92) rfl ?_); refine goesL_ (some 30) rfl rfl Tryd.func92 (by kernel_rfl) rfl #[.agg #[.int .i64 ((rd_T51 l0 x16_1).f1.f0), .int .i64 ((rd_T51 l0 x16_1).f1.f1)]] rfl tm_ ?_; (with_reducible refine (refill_span.calls ((rd_T51 l0 x16_1).f1.f0) ((rd_T51 l0 x16_1).f1.f1) t251 _ ?side1 A11.out).mono ?_); (case side1 => exact TabB.below HT.out bl_); rintro e w21 ⟨rfl, hb⟩; refine ⟨_, rfl, ?_⟩; have n0_ := a_ (Kd.R_below (rl_ HO_5.out) hb); have n1_ := a_ (bb_ BK247.out hb); have n2_ := a_ (below_step bl_ hb); clear HO_5; clear BK247; clear HB; have HO_5 := n0_; have BK247 := n1_; have HB := n2_; clear n0_ n1_ n2_; (try clear hb); (try clear hb2); (try clear hk); (try clear hi)) | ((with_reducible refine gate_builtin (b := .append) (xs := #[.tmp 33, .tmp 35]) rfl ?_); at_builtin; refine Kd.R_append Kd.string (w0 := w) w.heap.size rfl (.tmp 33) (.tmp 35) 104 9 (.string ⟨#[]⟩) 16 rfl Tryd.underlying104 info9 rfl (by decide) (by omega) u5 x5_1 (t248 ++ ((⟨#[64]⟩ : ByteArray) ++ t251)) [.string (t248 ++ ((⟨#[64]⟩ : ByteArray) ++ t251))] (fun _ => True) (fun _ => False) rfl rfl ?aP (fun _ hk => hk.elim) ?aF ?aO ?aB ?aS ?aL ?_; (case aP => exact rfl); (case aB => exact bl_); (case aF => exact (fun _ _ => trivial)); (case aO => exact (rl_ HO_5.out)); (case aS => exact (below_size bl_)); (case aL => have := LMc14.out; omega); intro v253 w22 ho hb hg hat; rw [← Ny252.out] at ho; have n0_ := a_ (blk_grown (g := gb247) (o := .cells #[.int .i64 ((rd_T51 l0 x16_1).f0.f0), .int .i64 ((rd_T51 l0 x16_1).f0.f1), .int .i64 ((rd_T51 l0 x16_1).f1.f0), .int .i64 ((rd_T51 l0 x16_1).f1.f1)] 51 (0, 0)) (by (with_reducible repeat (first | refine blk_drewN ?_ _ | refine blk_drew ?_ | refine blk_alloc ?_ _)); exact BK247.out) hg (Kd.R_ne HO_5.out BK247.out (by decide))); have n1_ := a_ (hb); have n2_ := a_ (ho); clear BK247; clear HB; clear HO_5; have BK247 := n0_; have HB := n1_; have HO254 := n2_; clear n0_ n1_ n2_; clear ho hb hg hat))
           go_roundg k1
           case measure => have := HK1.out; omega
           case rel => exact ⟨(y252), (wrap64 (x16_1 + 1)), (by first | rfl | (simp; done) | (simp [*]; done)), H', ⟨by have := HK1.out; omega⟩, ⟨rl_ HO254.out⟩, ⟨bl_⟩⟩
          ·rw [if_neg c14] at H
           exact absurd H (by simp)
         ·rw [if_neg c13] at H
          exact absurd H (by simp)
        ·rw [if_neg c12] at H
         exact absurd H (by simp)
       ·rw [if_neg c10] at H
        have c10b0 : (!(((rd_T51 l0 x16_1).f1.f0) == t249) || (!(((rd_T51 l0 x16_1).f1.f1) == t250))) = false := by simpa using c10
        clear c10
        by_cases c23 : x5_1.length < 8796093022208
        ·rw [if_pos c23] at H
         have LMc23 := a_ c23
         clear c23
         obtain ⟨y255, hy255⟩ : ∃ y_ : List ByteArray, y_ = (x5_1 ++ [t248]) := ⟨_, rfl⟩
         replace H : (refill_Print.l0 k1 y255 l0 (l0.length : Int) (wrap64 (x16_1 + 1))) = some (r1, r2) := by first | (rw [hy255]; with_reducible exact H) | (have H2_ := (Option.bind_some _ _).symm.trans H; rw [hy255]; with_reducible exact H2_) | (have H2_ := (Option.bind_some _ _).symm.trans H; with_reducible exact H2_) | with_reducible exact H | (rw [hy255]; exact H) | exact H
         have Ny255 := a_ hy255
         clear hy255
         have H' := a_ H
         clear H
         have p246 : 0 ≤ (x16_1 : Int) := of_decide_eq_true (by first | (with_reducible assumption) | assumption)
         have q246 : x16_1 < (l0.length : Int) := of_decide_eq_true (by first | (with_reducible assumption) | assumption)
         obtain ⟨ad246, e246, hx246_0, hx246_1, hx246_2, hx246_3⟩ := at_T51 HR0.out x16_1 p246 q246
         cases e246
         replace hx246_0 := (HB.out.cell (World.block_lt_of_cell? w _ hx246_0)).trans hx246_0
         replace hx246_1 := (HB.out.cell (World.block_lt_of_cell? w _ hx246_1)).trans hx246_1
         replace hx246_2 := (HB.out.cell (World.block_lt_of_cell? w _ hx246_2)).trans hx246_2
         replace hx246_3 := (HB.out.cell (World.block_lt_of_cell? w _ hx246_3)).trans hx246_3
         replace p246 := eq_true p246
         replace q246 := eq_true q246
         try go_wp2_with (first | ((with_reducible refine gate_dst (N := 7) rfl ?_); refine box_event ?hg (N := 7) ?hd (cs := #[.int .i64 0, .int .i64 0, .int .i64 0, .int .i64 0]) (t := 51) ?hr ?_; (case hd => rfl); (case hg => rfl); (case hr => first | (go_simp; done) | (go_simp; rfl)); intro gb247 hg w24 hbox hb; have n0_ := a_ (Kd.R_below (rl_ HO_5.out) hb); have n1_ := a_ (below_step bl_ hb); have n2_ := a_ (hbox); have n3_ := a_ ((bz_ (w := w) hg)); have n4_ := a_ ((bz_ (w := w) hg)); clear HO_5; clear HB; have HO_5 := n0_; have HB := n1_; have BK247 := n2_; have GW247 := n3_; have GE247 := n4_; clear n0_ n1_ n2_ n3_ n4_; clear hb hbox hg; have hcz25_0 : w24.cell? ⟨gb247, 0, none⟩ = some (.int .i64 0) := (blk_cell BK247.out 0).trans rfl; have hcz25_1 : w24.cell? ⟨gb247, 1, none⟩ = some (.int .i64 0) := (blk_cell BK247.out 1).trans rfl; have hcz25_2 : w24.cell? ⟨gb247, 2, none⟩ = some (.int .i64 0) := (blk_cell BK247.out 2).trans rfl; have hcz25_3 : w24.cell? ⟨gb247, 3, none⟩ = some (.int .i64 0) := (blk_cell BK247.out 3).trans rfl; have hfz25_0 := blk_frozen BK247.out 0; have hfz25_1 := blk_frozen BK247.out 1; have hfz25_2 := blk_frozen BK247.out 2; have hfz25_3 := blk_frozen BK247.out 3) | ((with_reducible refine gate_callee (f := 92) rfl ?_); refine goesL_ (some 22) rfl rfl Tryd.func92 (by kernel_rfl) rfl #[.agg #[.int .i64 ((rd_T51 l0 x16_1).f0.f0), .int .i64 ((rd_T51 l0 x16_1).f0.f1)]] rfl tm_ ?_; (with_reducible refine (refill_span.calls ((rd_T51 l0 x16_1).f0.f0) ((rd_T51 l0 x16_1).f0.f1) t248 _ ?side1 A8.out).mono ?_); (case side1 => exact TabB.below HT.out bl_); rintro e w26 ⟨rfl, hb⟩; refine ⟨_, rfl, ?_⟩; have n0_ := a_ (Kd.R_below (rl_ (Kd.R_mono (Kd.R_far (p := ⟨gb247, 3, none⟩) (Kd.R_far (p := ⟨gb247, 2, none⟩) (Kd.R_far (p := ⟨gb247, 1, none⟩) (Kd.R_far (p := ⟨gb247, 0, none⟩) (Kd.R_types HO_5.out BK247.out (by decide)) (fun _ hk => hk.2) (.int .i64 ((rd_T51 l0 x16_1).f0.f0))) (fun _ hk => hk.2) (.int .i64 ((rd_T51 l0 x16_1).f0.f1))) (fun _ hk => hk.2) (.int .i64 ((rd_T51 l0 x16_1).f1.f0))) (fun _ hk => hk.2) (.int .i64 ((rd_T51 l0 x16_1).f1.f1))) (fun _ h_ => h_.1))) hb); have n1_ := a_ (blk_below (g := gb247) (o := .cells #[.int .i64 ((rd_T51 l0 x16_1).f0.f0), .int .i64 ((rd_T51 l0 x16_1).f0.f1), .int .i64 ((rd_T51 l0 x16_1).f1.f0), .int .i64 ((rd_T51 l0 x16_1).f1.f1)] 51 (0, 0)) (by (with_reducible repeat (first | refine blk_drewN ?_ _ | refine blk_drew ?_ | refine blk_alloc ?_ _)); refine blk_put (cs := #[.int .i64 ((rd_T51 l0 x16_1).f0.f0), .int .i64 ((rd_T51 l0 x16_1).f0.f1), .int .i64 ((rd_T51 l0 x16_1).f1.f0), .int .i64 0]) ?_ 3 _ rfl; (with_reducible repeat (first | refine blk_drewN ?_ _ | refine blk_drew ?_ | refine blk_alloc ?_ _)); refine blk_put (cs := #[.int .i64 ((rd_T51 l0 x16_1).f0.f0), .int .i64 ((rd_T51 l0 x16_1).f0.f1), .int .i64 0, .int .i64 0]) ?_ 2 _ rfl; (with_reducible repeat (first | refine blk_drewN ?_ _ | refine blk_drew ?_ | refine blk_alloc ?_ _)); refine blk_put (cs := #[.int .i64 ((rd_T51 l0 x16_1).f0.f0), .int .i64 0, .int .i64 0, .int .i64 0]) ?_ 1 _ rfl; (with_reducible repeat (first | refine blk_drewN ?_ _ | refine blk_drew ?_ | refine blk_alloc ?_ _)); refine blk_put (cs := #[.int .i64 0, .int .i64 0, .int .i64 0, .int .i64 0]) ?_ 0 _ rfl; (with_reducible repeat (first | refine blk_drewN ?_ _ | refine blk_drew ?_ | refine blk_alloc ?_ _)); exact BK247.out) hb); have n2_ := a_ (below_step bl_ hb); clear HO_5; clear BK247; clear HB; have HO_5 := n0_; have BK247 := n1_; have HB := n2_; clear n0_ n1_ n2_; (try clear hb); (try clear hb2); (try clear hk); (try clear hi)))
         have n0_ := a_ (Kd.R_drew HO_5.out)
         have n1_ := a_ (blk_drew BK247.out)
         have n2_ := a_ (below_drew1 HB.out)
         clear HO_5
         clear BK247
         clear HB
         have HO_5 := n0_
         have BK247 := n1_
         have HB := n2_
         clear n0_ n1_ n2_
         refine start_ (n := 4) (S := fun w' => w'.cell? ⟨gb247, 0, none⟩ = some (.int .i64 ((rd_T51 l0 x16_1).f0.f0)) ∧ w'.cell? ⟨gb247, 1, none⟩ = some (.int .i64 ((rd_T51 l0 x16_1).f0.f1)) ∧ w'.cell? ⟨gb247, 2, none⟩ = some (.int .i64 ((rd_T51 l0 x16_1).f1.f0)) ∧ w'.cell? ⟨gb247, 3, none⟩ = some (.int .i64 ((rd_T51 l0 x16_1).f1.f1))) (ds := []) #[false, false, false, false] (by kernel_rfl) rfl rfl ⟨(blk_cell BK247.out 0).trans rfl, (blk_cell BK247.out 1).trans rfl, (blk_cell BK247.out 2).trans rfl, (blk_cell BK247.out 3).trans rfl⟩ (fun hHeld => ?_)
         generalize w26.drew = w27 at HO_5 BK247 HB hHeld ⊢
         refine pure_ (i := 0) (N := some 23) (v := ?_) (a' := ?_) #[true, false, false, false] rfl rfl (by kernel_rfl) (fun _ _ _ h => h) (Or.inl ⟨by rfl, ?_⟩) ?_ ?_
         rotate_left
         ·intro w'
          go_simp
          with_reducible rfl
         rotate_left
         ·simp only [Act.put, List.setIfInBounds_toArray, List.set_cons_zero, List.set_cons_succ, i64_w, i32_w]
          rfl
         refine take_ (i := 1) (N := some 24) (v := ?_) (a' := ?_) #[true, true, false, false] rfl rfl (by kernel_rfl) (fun _ _ _ h => h) (Or.inl ⟨by rfl, ?_⟩) hHeld ?_ ?_
         rotate_left
         ·rintro w' ⟨s0, s1, s2, s3⟩
          go_simp
          with_reducible rfl
         rotate_left
         ·simp only [Act.put, List.setIfInBounds_toArray, List.set_cons_zero, List.set_cons_succ, i64_w, i32_w]
          rfl
         refine one_ (i := 2) (N := some 25) #[true, true, true, false] rfl rfl (by kernel_rfl) (by decide) (fun K hK => ?_)
         refine goes_ Tryd.func82 (by kernel_rfl) rfl #[] (by rfl) rfl rfl tm_ ?_
         with_reducible refine (refill_unknown.calls  t249 t250 _ A9.out).mono ?_
         rintro e w28 ⟨rfl, hb⟩
         refine ⟨_, rfl, ?_⟩
         have n0_ := a_ (Kd.R_below (rl_ HO_5.out) hb)
         have n1_ := a_ (bb_ BK247.out hb)
         have n2_ := a_ (below_step bl_ hb)
         clear HO_5
         clear BK247
         clear HB
         have HO_5 := n0_
         have BK247 := n1_
         have HB := n2_
         clear n0_ n1_ n2_
         (try clear hb)
         (try clear hb2)
         (try clear hk)
         (try clear hi)
         refine hK.out _ _ ⟨(blk_cell BK247.out 0).trans rfl, (blk_cell BK247.out 1).trans rfl, (blk_cell BK247.out 2).trans rfl, (blk_cell BK247.out 3).trans rfl⟩ (fun hHeld => ?_)
         clear hK K
         refine norm_ (a' := ?_) ?_ ?_
         rotate_left
         ·show Act.put _ (some 25) _ = _
          simp only [Act.put, List.setIfInBounds_toArray, List.set_cons_zero, List.set_cons_succ, i64_w, i32_w]
          rfl
         refine pure_ (i := 3) (N := some 26) (v := ?_) (a' := ?_) #[true, true, true, true] rfl rfl (by kernel_rfl) (fun _ _ _ h => h) (Or.inl ⟨by rfl, ?_⟩) ?_ ?_
         rotate_left
         ·intro w'
          go_simp
          with_reducible rfl
         rotate_left
         ·simp only [Act.put, List.setIfInBounds_toArray, List.set_cons_zero, List.set_cons_succ, i64_w, i32_w]
          rfl
         refine done_ (by kernel_rfl) ?_
         try go_wp2_with (first | ((with_reducible refine gate_builtin (b := .append) (xs := #[.tmp 33, .tmp 35]) rfl ?_); at_builtin; refine Kd.R_append Kd.string (w0 := w) w.heap.size rfl (.tmp 33) (.tmp 35) 104 9 (.string ⟨#[]⟩) 16 rfl Tryd.underlying104 info9 rfl (by decide) (by omega) u5 x5_1 t248 [.string t248] (fun _ => True) (fun _ => False) rfl rfl ?aP (fun _ hk => hk.elim) ?aF ?aO ?aB ?aS ?aL ?_; (case aP => exact rfl); (case aB => exact bl_); (case aF => exact (fun _ _ => trivial)); (case aO => exact (rl_ HO_5.out)); (case aS => exact (below_size bl_)); (case aL => have := LMc23.out; omega); intro v256 w29 ho hb hg hat; rw [← Ny255.out] at ho; have n0_ := a_ (blk_grown (g := gb247) (o := .cells #[.int .i64 ((rd_T51 l0 x16_1).f0.f0), .int .i64 ((rd_T51 l0 x16_1).f0.f1), .int .i64 ((rd_T51 l0 x16_1).f1.f0), .int .i64 ((rd_T51 l0 x16_1).f1.f1)] 51 (0, 0)) (by (with_reducible repeat (first | refine blk_drewN ?_ _ | refine blk_drew ?_ | refine blk_alloc ?_ _)); exact BK247.out) hg (Kd.R_ne HO_5.out BK247.out (by decide))); have n1_ := a_ (hb); have n2_ := a_ (ho); clear BK247; clear HB; clear HO_5; have BK247 := n0_; have HB := n1_; have HO257 := n2_; clear n0_ n1_ n2_; clear ho hb hg hat))
         go_roundg k1
         case measure => have := HK1.out; omega
         case rel => exact ⟨(y255), (wrap64 (x16_1 + 1)), (by first | rfl | (simp; done) | (simp [*]; done)), H', ⟨by have := HK1.out; omega⟩, ⟨rl_ HO257.out⟩, ⟨bl_⟩⟩
        ·rw [if_neg c23] at H
         exact absurd H (by simp)
      ·rw [if_neg c7] at H
       exact absurd H (by simp)
     ·rw [if_neg c6] at H
      exact absurd H (by simp)
    ·rw [if_neg c5] at H
     have c5b0 : decide (x16_1 < (l0.length : Int)) = false := decide_eq_false c5
     clear c5
     replace H := Option.bind_eq_some_iff.mp H
     obtain ⟨t245, A300, H⟩ := H
     replace H : (some (t245, 0)) = some (r1, r2) := H
     have A30 := a_ A300
     clear A300
     simp only [Option.some.injEq, Prod.mk.injEq] at H
     obtain ⟨rfl, rfl⟩ := H
     obtain ⟨Ao31, co31, eo31⟩ := Kd.R_slice HO_5.out
     subst eo31
     go_wp2_with (first | ((with_reducible refine gate_callee (f := 93) rfl ?_); refine goesL_ (some 39) rfl rfl Tryd.func93 (by kernel_rfl) rfl #[.slice Ao31 x5_1.length co31, .string (⟨#[32]⟩ : ByteArray)] rfl tm_ ?_; (with_reducible refine (strings_Join.calls _ _ x5_1 (⟨#[32]⟩ : ByteArray) t245 _ ?side1 ?side2 ?side3 A30.out).mono ?_); (case side1 => exact cl_ ((Kd.R_reads' HO_5.out).2.2)); (case side2 => exact (Kd.R_reads' HO_5.out).2.1); (case side3 => exact R_spot HO_5.out); rintro e w32 ⟨rfl, hb⟩; refine ⟨_, rfl, ?_⟩; have n0_ := a_ (Kd.R_below (rl_ HO_5.out) hb); have n1_ := a_ (below_step bl_ hb); clear HO_5; clear HB; have HO_5 := n0_; have HB := n1_; clear n0_ n1_; (try clear hb); (try clear hb2); (try clear hk); (try clear hi)))
     go_ret2
     exact ⟨by first | rfl | (simp [errW_none, errW_some] <;> rfl) | (simp [*, errW_none, errW_some] <;> rfl), bl_⟩
 ·rw [if_neg c3] at H
  have c3b0 : (t244 == 0) = false := beq_eq_false_iff_ne.mpr c3
  have c3b1 : (t244 != 0) = true := bne_iff_ne.mpr c3
  simp only [Option.some.injEq, Prod.mk.injEq] at H
  obtain ⟨rfl, rfl⟩ := H
  go_enter Tryd.func62, Tryd.ntmps62
  go_wp2_with (first | ((with_reducible refine gate_callee (f := 47) rfl ?_); refine goesL_ (some 10) rfl rfl Tryd.func47 (by kernel_rfl) rfl #[.slice A0 l0.length c0] rfl tm_ ?_; (with_reducible refine (refill_Check.calls k _ _ l0 t244 _ ?side1 ?side2 A2.out).mono ?_); (case side1 => exact cl_ HR0.out); (case side2 => exact HC0.out); rintro e w33 ⟨rfl, hb⟩; refine ⟨_, rfl, ?_⟩; have n0_ := a_ (below_step bl_ hb); clear HB; have HB := n0_; clear n0_; (try clear hb); (try clear hb2); (try clear hk); (try clear hi)))
  go_ret2
  exact ⟨by first | rfl | (simp [errW_none, errW_some] <;> rfl) | (simp [*, errW_none, errW_some] <;> rfl), bl_⟩
end Go.Proofs.YtgiihjcpgjpkcaaDoor.Q
