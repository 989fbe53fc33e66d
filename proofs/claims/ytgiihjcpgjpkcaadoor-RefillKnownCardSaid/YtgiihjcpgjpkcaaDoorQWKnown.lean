/- Contracts of functions of the given program: each Go function as a plain Lean function (name.f) and the proof that its call answers just so, for every reading of its arguments. Written by the session's program wip/xprint.py out of the translation. -/
import Derived.Test.YtgiihjcpgjpkcaaDoorQ0
import Derived.Test.YtgiihjcpgjpkcaaDoorQC
import Derived.Test.YtgiihjcpgjpkcaaDoorQF
import Derived.Test.YtgiihjcpgjpkcaaDoorQI
import Derived.Test.YtgiihjcpgjpkcaaDoorQO
import Derived.Test.YtgiihjcpgjpkcaaDoorHCheck
import Derived.Test.YtgiihjcpgjpkcaaDoorHKnown
import Derived.Test.YtgiihjcpgjpkcaaDoorHSane
namespace Go.Proofs.YtgiihjcpgjpkcaaDoor.Q
open Go.RowKit Go.Proofs.YtgiihjcpgjpkcaaDoorW.PrintWords Go.Proofs.YtgiihjcpgjpkcaaDoorW.PrintLast Go.Proofs.YtgiihjcpgjpkcaaDoorW.PrintMore
attribute [local go_sem] max2_int min2_int max_two min_two max_three min_three max_four min_four   -- for this text's walks alone
set_option linter.unusedVariables false
set_option linter.unusedSimpArgs false

/-! ### waterhourlaw04_RefillKnown: function 14 -/
mutual
def waterhourlaw04_RefillKnown.j0 : Nat → List (S51) → Int → List Int → Int → Int → Bool → Int → Int → Option (Bool)
 | 0, _, _, _, _, _, _, _, _ => none
 | k + 1, x0, x1, x3, x4, x5, x42, x770000, x770001 => if x42 = true then (some true) else ((refill_Known.f x0 x1 x770000 x770001).bind fun bt777 => (if bt777.2 = 0 then ((refill_CheckTimes.f x0 x3).bind fun t781 => ((refill_CheckTimes.f bt777.1 x3).bind fun t782 => (if t781 = 0 then (if 0 ≤ x1 then (if x1 < (x3.length : Int) then (if (rd x3 x1) ≥ x770000 then (waterhourlaw04_RefillKnown.j1 k x0 x4 x5 bt777.1 ((t782 == 0) != (decide ((rd x3 x1) ≤ x770001)))) else (waterhourlaw04_RefillKnown.j1 k x0 x4 x5 bt777.1 ((t782 == 0) != false))) else (none)) else (none)) else (waterhourlaw04_RefillKnown.j1 k x0 x4 x5 bt777.1 ((t782 == 0) != false))))) else (if (bt777.1.length : Int) = 0 then (if bt777.2 = 1 then (some true) else (some (bt777.2 == 4))) else (some false))))
def waterhourlaw04_RefillKnown.j1 : Nat → List (S51) → Int → Int → List (S51) → Bool → Option (Bool)
 | 0, _, _, _, _, _ => none
 | k + 1, x0, x4, x5, x13, x90 => if x90 = true then (some false) else ((refill_Possible.f k x13).bind fun bt785 => (if bt785.2 = 0 then (waterhourlaw04_RefillKnown.j2 k x0 x4 x5 x13 bt785.2 (!bt785.1)) else (waterhourlaw04_RefillKnown.j2 k x0 x4 x5 x13 bt785.2 true)))
def waterhourlaw04_RefillKnown.j2 : Nat → List (S51) → Int → Int → List (S51) → Int → Bool → Option (Bool)
 | 0, _, _, _, _, _, _ => none
 | k + 1, x0, x4, x5, x13, x17, x101 => if x101 = true then (some (x17 == 0)) else ((waterhourref04_Event.f x0 x5 0).bind fun t787 => (if t787 = true then ((waterhourref04_Event.f x0 x4 (-1)).bind fun t788 => (if t788 = true then (waterhourlaw04_RefillKnown.j3 k x0 x4 x5 x13 (decide (x4 ≥ x5))) else (waterhourlaw04_RefillKnown.j3 k x0 x4 x5 x13 true))) else (waterhourlaw04_RefillKnown.j3 k x0 x4 x5 x13 true)))
def waterhourlaw04_RefillKnown.j3 : Nat → List (S51) → Int → Int → List (S51) → Bool → Option (Bool)
 | 0, _, _, _, _, _ => none
 | k + 1, x0, x4, x5, x13, x118 => if x118 = true then (some true) else ((refill_Time.f k x0 x5).bind fun bt789 => ((refill_Time.f k x13 x5).bind fun bt793 => ((refill_Between.f k x0 x4 x5).bind fun bt797 => ((refill_Between.f k x13 x4 x5).bind fun bt801 => (if bt789.2.2 = 0 then (if bt793.2.2 = 0 then (if bt797.2.2 = 0 then (if bt801.2.2 = 0 then (if bt793.1 ≥ bt789.1 then (if bt793.2.1 ≤ bt789.2.1 then (if bt801.1 ≥ bt797.1 then (some (decide (bt801.2.1 ≤ bt797.2.1))) else (some false)) else (some false)) else (some false)) else (some false)) else (some false)) else (some false)) else (some false))))))
end
def waterhourlaw04_RefillKnown.f (k : Nat) (l0 : List (S51)) (a1 : Int) (a2_0 : Int) (a2_1 : Int) (l3 : List Int) (a4 : Int) (a5 : Int) : Option (Bool) := (law_sane.f).bind fun t770 => (if t770 = true then ((waterhourref04_Valid.f k l0).bind fun t771 => (if t771 = true then ((waterhourlaw04_few.f k l0 (([l3] : List (List Int)))).bind fun t775 => (if t775 = true then ((waterhourref04_Event.f l0 a1 0).bind fun t776 => (waterhourlaw04_RefillKnown.j0 k l0 a1 l3 a4 a5 (!t776) a2_0 a2_1)) else (waterhourlaw04_RefillKnown.j0 k l0 a1 l3 a4 a5 true a2_0 a2_1))) else (waterhourlaw04_RefillKnown.j0 k l0 a1 l3 a4 a5 true a2_0 a2_1))) else (some false))
theorem waterhourlaw04_RefillKnown.mono_l : ∀ k, (∀ y0 y1 y2 y3 y4 y5 y6 y7, LeO (waterhourlaw04_RefillKnown.j0 k y0 y1 y2 y3 y4 y5 y6 y7) (waterhourlaw04_RefillKnown.j0 (k + 1) y0 y1 y2 y3 y4 y5 y6 y7)) ∧ (∀ y0 y1 y2 y3 y4, LeO (waterhourlaw04_RefillKnown.j1 k y0 y1 y2 y3 y4) (waterhourlaw04_RefillKnown.j1 (k + 1) y0 y1 y2 y3 y4)) ∧ (∀ y0 y1 y2 y3 y4 y5, LeO (waterhourlaw04_RefillKnown.j2 k y0 y1 y2 y3 y4 y5) (waterhourlaw04_RefillKnown.j2 (k + 1) y0 y1 y2 y3 y4 y5)) ∧ (∀ y0 y1 y2 y3 y4, LeO (waterhourlaw04_RefillKnown.j3 k y0 y1 y2 y3 y4) (waterhourlaw04_RefillKnown.j3 (k + 1) y0 y1 y2 y3 y4))
 | 0 => ⟨fun _ _ _ _ _ _ _ _ r h => by simp [waterhourlaw04_RefillKnown.j0] at h, fun _ _ _ _ _ r h => by simp [waterhourlaw04_RefillKnown.j1] at h, fun _ _ _ _ _ _ r h => by simp [waterhourlaw04_RefillKnown.j2] at h, fun _ _ _ _ _ r h => by simp [waterhourlaw04_RefillKnown.j3] at h⟩
 | k + 1 => by
  obtain ⟨ih0, ih1, ih2, ih3⟩ := waterhourlaw04_RefillKnown.mono_l k
  refine ⟨?_, ?_, ?_, ?_⟩
  ·intro y0 y1 y2 y3 y4 y5 y6 y7
   unfold waterhourlaw04_RefillKnown.j0
   repeat' first
   | (with_reducible exact ih0 _ _ _ _ _ _ _ _)
   | (with_reducible exact ih1 _ _ _ _ _)
   | (with_reducible exact ih2 _ _ _ _ _ _)
   | (with_reducible exact ih3 _ _ _ _ _)
   | (with_reducible exact refill_Between.mono _ _ _ _)
   | (with_reducible exact refill_Possible.mono _ _)
   | (with_reducible exact refill_Time.mono _ _ _)
   | (with_reducible exact waterhourlaw04_few.mono _ _ _)
   | (with_reducible exact waterhourref04_Valid.mono _ _)
   | (with_reducible exact LeO.refl _)
   | (with_reducible exact LeO.none _)
   | (with_reducible refine LeO.ite ?_ ?_)
   | (with_reducible refine LeO.bind ?_ (fun _ => ?_))
   | exact ih0 _ _ _ _ _ _ _ _
   | exact ih1 _ _ _ _ _
   | exact ih2 _ _ _ _ _ _
   | exact ih3 _ _ _ _ _
   | exact refill_Between.mono _ _ _ _
   | exact refill_Possible.mono _ _
   | exact refill_Time.mono _ _ _
   | exact waterhourlaw04_few.mono _ _ _
   | exact waterhourref04_Valid.mono _ _
   | exact LeO.none _
   | refine LeO.ite ?_ ?_
   | refine LeO.bind ?_ (fun _ => ?_)
  ·intro y0 y1 y2 y3 y4
   unfold waterhourlaw04_RefillKnown.j1
   repeat' first
   | (with_reducible exact ih0 _ _ _ _ _ _ _ _)
   | (with_reducible exact ih1 _ _ _ _ _)
   | (with_reducible exact ih2 _ _ _ _ _ _)
   | (with_reducible exact ih3 _ _ _ _ _)
   | (with_reducible exact refill_Between.mono _ _ _ _)
   | (with_reducible exact refill_Possible.mono _ _)
   | (with_reducible exact refill_Time.mono _ _ _)
   | (with_reducible exact waterhourlaw04_few.mono _ _ _)
   | (with_reducible exact waterhourref04_Valid.mono _ _)
   | (with_reducible exact LeO.refl _)
   | (with_reducible exact LeO.none _)
   | (with_reducible refine LeO.ite ?_ ?_)
   | (with_reducible refine LeO.bind ?_ (fun _ => ?_))
   | exact ih0 _ _ _ _ _ _ _ _
   | exact ih1 _ _ _ _ _
   | exact ih2 _ _ _ _ _ _
   | exact ih3 _ _ _ _ _
   | exact refill_Between.mono _ _ _ _
   | exact refill_Possible.mono _ _
   | exact refill_Time.mono _ _ _
   | exact waterhourlaw04_few.mono _ _ _
   | exact waterhourref04_Valid.mono _ _
   | exact LeO.none _
   | refine LeO.ite ?_ ?_
   | refine LeO.bind ?_ (fun _ => ?_)
  ·intro y0 y1 y2 y3 y4 y5
   unfold waterhourlaw04_RefillKnown.j2
   repeat' first
   | (with_reducible exact ih0 _ _ _ _ _ _ _ _)
   | (with_reducible exact ih1 _ _ _ _ _)
   | (with_reducible exact ih2 _ _ _ _ _ _)
   | (with_reducible exact ih3 _ _ _ _ _)
   | (with_reducible exact refill_Between.mono _ _ _ _)
   | (with_reducible exact refill_Possible.mono _ _)
   | (with_reducible exact refill_Time.mono _ _ _)
   | (with_reducible exact waterhourlaw04_few.mono _ _ _)
   | (with_reducible exact waterhourref04_Valid.mono _ _)
   | (with_reducible exact LeO.refl _)
   | (with_reducible exact LeO.none _)
   | (with_reducible refine LeO.ite ?_ ?_)
   | (with_reducible refine LeO.bind ?_ (fun _ => ?_))
   | exact ih0 _ _ _ _ _ _ _ _
   | exact ih1 _ _ _ _ _
   | exact ih2 _ _ _ _ _ _
   | exact ih3 _ _ _ _ _
   | exact refill_Between.mono _ _ _ _
   | exact refill_Possible.mono _ _
   | exact refill_Time.mono _ _ _
   | exact waterhourlaw04_few.mono _ _ _
   | exact waterhourref04_Valid.mono _ _
   | exact LeO.none _
   | refine LeO.ite ?_ ?_
   | refine LeO.bind ?_ (fun _ => ?_)
  ·intro y0 y1 y2 y3 y4
   unfold waterhourlaw04_RefillKnown.j3
   repeat' first
   | (with_reducible exact ih0 _ _ _ _ _ _ _ _)
   | (with_reducible exact ih1 _ _ _ _ _)
   | (with_reducible exact ih2 _ _ _ _ _ _)
   | (with_reducible exact ih3 _ _ _ _ _)
   | (with_reducible exact refill_Between.mono _ _ _ _)
   | (with_reducible exact refill_Possible.mono _ _)
   | (with_reducible exact refill_Time.mono _ _ _)
   | (with_reducible exact waterhourlaw04_few.mono _ _ _)
   | (with_reducible exact waterhourref04_Valid.mono _ _)
   | (with_reducible exact LeO.refl _)
   | (with_reducible exact LeO.none _)
   | (with_reducible refine LeO.ite ?_ ?_)
   | (with_reducible refine LeO.bind ?_ (fun _ => ?_))
   | exact ih0 _ _ _ _ _ _ _ _
   | exact ih1 _ _ _ _ _
   | exact ih2 _ _ _ _ _ _
   | exact ih3 _ _ _ _ _
   | exact refill_Between.mono _ _ _ _
   | exact refill_Possible.mono _ _
   | exact refill_Time.mono _ _ _
   | exact waterhourlaw04_few.mono _ _ _
   | exact waterhourref04_Valid.mono _ _
   | exact LeO.none _
   | refine LeO.ite ?_ ?_
   | refine LeO.bind ?_ (fun _ => ?_)
theorem waterhourlaw04_RefillKnown.mono : ∀ a0 a1 a2 a3 a4 a5 a6 k, LeO (waterhourlaw04_RefillKnown.f k a0 a1 a2 a3 a4 a5 a6) (waterhourlaw04_RefillKnown.f (k + 1) a0 a1 a2 a3 a4 a5 a6) := by
 intro a0 a1 a2 a3 a4 a5 a6 k
 obtain ⟨ih0, ih1, ih2, ih3⟩ := waterhourlaw04_RefillKnown.mono_l k
 unfold waterhourlaw04_RefillKnown.f
 repeat' first
   | (with_reducible exact ih0 _ _ _ _ _ _ _ _)
   | (with_reducible exact ih1 _ _ _ _ _)
   | (with_reducible exact ih2 _ _ _ _ _ _)
   | (with_reducible exact ih3 _ _ _ _ _)
   | (with_reducible exact refill_Between.mono _ _ _ _)
   | (with_reducible exact refill_Possible.mono _ _)
   | (with_reducible exact refill_Time.mono _ _ _)
   | (with_reducible exact waterhourlaw04_few.mono _ _ _)
   | (with_reducible exact waterhourref04_Valid.mono _ _)
   | (with_reducible exact LeO.refl _)
   | (with_reducible exact LeO.none _)
   | (with_reducible refine LeO.ite ?_ ?_)
   | (with_reducible refine LeO.bind ?_ (fun _ => ?_))
   | exact ih0 _ _ _ _ _ _ _ _
   | exact ih1 _ _ _ _ _
   | exact ih2 _ _ _ _ _ _
   | exact ih3 _ _ _ _ _
   | exact refill_Between.mono _ _ _ _
   | exact refill_Possible.mono _ _
   | exact refill_Time.mono _ _ _
   | exact waterhourlaw04_few.mono _ _ _
   | exact waterhourref04_Valid.mono _ _
   | exact LeO.none _
   | refine LeO.ite ?_ ?_
   | refine LeO.bind ?_ (fun _ => ?_)
def waterhourlaw04_RefillKnown.T9 : Bool × List (List Nat × List Nat) := (true, [([], []), ([], []), ([0, 1], [0, 1]), ([2], [2]), ([], []), ([4, 2], [4]), ([5], [5]), ([5], [5]), ([6, 7, 5], [5, 6, 7]), ([8, 5], [5, 8]), ([5], [5]), ([10, 5], [5, 10]), ([9, 11, 5], [5, 9, 11]), ([5, 12], [5, 12]), ([13, 5], [13]), ([14], [14]), ([14], [14]), ([15, 16, 14], [14, 15, 16]), ([17, 14], [14, 17]), ([14], [14]), ([19, 14], [14, 19]), ([18, 20, 14], [14, 18, 20]), ([14, 21], [14, 21]), ([3, 22], [3, 22])])
def waterhourlaw04_RefillKnown.B9 : List Nat := [0, 0, 3, 7, 0, 23, 55, 55, 247, 503, 55, 1079, 4087, 8183, 16375, 32759, 32759, 131063, 262135, 32759, 557047, 2097143, 4194295, 8388607]
theorem waterhourlaw04_RefillKnown.tab9 : rtab .any (opsOf Tryd.f14 9) = waterhourlaw04_RefillKnown.T9 := by kernel_rfl
theorem waterhourlaw04_RefillKnown.bits9 : waitsOk waterhourlaw04_RefillKnown.T9.2 waterhourlaw04_RefillKnown.B9 = true := by kernel_rfl
set_option maxHeartbeats 8000000 in
set_option maxRecDepth 100000 in
theorem waterhourlaw04_RefillKnown.calls (k : Nat) (A0 : Option Addr) (c0 : Nat) (l0 : List (S51)) (a1 : Int) (a2_0 : Int) (a2_1 : Int) (P3_ : Nat → Prop) (A3 : Option Addr) (c3 : Nat) (l3 : List Int) (a4 : Int) (a5 : Int) (r : Bool) (w : World) (hr0 : Kd.C k51 w A0 l0.length l0) (hc0 : l0.length ≤ c0) (hs3 : Kd.V (Kd.int .i64) 3 w w.heap.size (fun k_ => P3_ k_) (.slice A3 l3.length c3) l3) (ht : TabB w) (hrt : Aside0 (r = true)) (h : waterhourlaw04_RefillKnown.f k l0 a1 a2_0 a2_1 l3 a4 a5 = some r) :
  Calls Tryd.prog 14 #[.slice A0 l0.length c0, .int .i64 a1, .agg #[.int .i64 a2_0, .int .i64 a2_1], .slice A3 l3.length c3, .int .i64 a4, .int .i64 a5] w fun e w' => e = .returned (.bool r) ∧ Below w.heap.size w w' := by
 have hu49 := Tryd.underlying49
 have HR0 := a_ hr0
 have HC0 := a_ hc0
 clear hr0 hc0
 have HO3 := a_ (show Kd.V (Kd.int .i64) 3 w w.heap.size (fun k_ => (P3_ k_ ∨ w.heap.size ≤ k_)) (.slice A3 l3.length c3) l3 from Kd.V_mono hs3 (fun k_ hk => .inl hk))
 have HT := a_ ht
 clear ht
 have HB := a_ (Below.refl w.heap.size w)
 have H : ((law_sane.f).bind fun t770 => (if t770 = true then ((waterhourref04_Valid.f k l0).bind fun t771 => (if t771 = true then ((waterhourlaw04_few.f k l0 (([l3] : List (List Int)))).bind fun t775 => (if t775 = true then ((waterhourref04_Event.f l0 a1 0).bind fun t776 => (waterhourlaw04_RefillKnown.j0 k l0 a1 l3 a4 a5 (!t776) a2_0 a2_1)) else (waterhourlaw04_RefillKnown.j0 k l0 a1 l3 a4 a5 true a2_0 a2_1))) else (waterhourlaw04_RefillKnown.j0 k l0 a1 l3 a4 a5 true a2_0 a2_1))) else (some false))) = some r := h
 clear h
 replace H := Option.bind_eq_some_iff.mp H
 obtain ⟨t770, A70, H⟩ := H
 replace H : (if t770 = true then ((waterhourref04_Valid.f k l0).bind fun t771 => (if t771 = true then ((waterhourlaw04_few.f k l0 (([l3] : List (List Int)))).bind fun t775 => (if t775 = true then ((waterhourref04_Event.f l0 a1 0).bind fun t776 => (waterhourlaw04_RefillKnown.j0 k l0 a1 l3 a4 a5 (!t776) a2_0 a2_1)) else (waterhourlaw04_RefillKnown.j0 k l0 a1 l3 a4 a5 true a2_0 a2_1))) else (waterhourlaw04_RefillKnown.j0 k l0 a1 l3 a4 a5 true a2_0 a2_1))) else (some false)) = some r := H
 have A7 := a_ A70
 clear A70
 by_cases c8 : t770 = true
 ·subst c8
  have H1 : ((waterhourref04_Valid.f k l0).bind fun t771 => (if t771 = true then ((waterhourlaw04_few.f k l0 (([l3] : List (List Int)))).bind fun t775 => (if t775 = true then ((waterhourref04_Event.f l0 a1 0).bind fun t776 => (waterhourlaw04_RefillKnown.j0 k l0 a1 l3 a4 a5 (!t776) a2_0 a2_1)) else (waterhourlaw04_RefillKnown.j0 k l0 a1 l3 a4 a5 true a2_0 a2_1))) else (waterhourlaw04_RefillKnown.j0 k l0 a1 l3 a4 a5 true a2_0 a2_1))) = some r := by rw [if_pos rfl] at H; exact H
  clear H
  have H := H1
  clear H1
  have HC9 := a_ H
  clear H
  go_enter Tryd.func14, Tryd.ntmps14
  go_upto_region 3 with (first | ((with_reducible refine gate_dst (N := 8) rfl ?_); (try (refine gate_guard (by rfl) ?_; dsimp only)); refine box_event ?hg (N := 8) ?hd (cs := #[.int .i64 a2_0, .int .i64 a2_1]) (t := 49) ?hr ?_; (case hd => rfl); (case hg => rfl); (case hr => first | (go_simp; done) | (go_simp; rfl)); intro gb769 hg w10 hbox hb; have n0_ := a_ (Kd.V_below (Kd.V_elderB (vl_ HO3.out) gb769 (Nat.le_of_eq hg.symm)) hb); have n1_ := a_ (below_step bl_ hb); have n2_ := a_ (hbox); have n3_ := a_ ((bz_ (w := w) hg)); have n4_ := a_ ((bz_ (w := w) hg)); clear HO3; clear HB; have HO3 := n0_; have HB := n1_; have BK769 := n2_; have GW769 := n3_; have GE769 := n4_; clear n0_ n1_ n2_ n3_ n4_; clear hb hbox hg) | ((with_reducible refine gate_callee (f := 18) rfl ?_); refine goesL_ (some 25) rfl rfl Tryd.func18 (by kernel_rfl) rfl #[] rfl tm_ ?_; (with_reducible refine (law_sane.calls  true _ ?side1 A7.out).mono ?_); (case side1 => exact TabB.below HT.out bl_); rintro e w11 ⟨rfl, hb⟩; refine ⟨_, rfl, ?_⟩; have n0_ := a_ (Kd.V_below (vl_ HO3.out) hb); have n1_ := a_ (bb_ BK769.out hb); have n2_ := a_ (below_step bl_ hb); clear HO3; clear BK769; clear HB; have HO3 := n0_; have BK769 := n1_; have HB := n2_; clear n0_ n1_ n2_; (try clear hb); (try clear hb2); (try clear hk); (try clear hi)))
  (try simp only [Act.put, List.setIfInBounds_toArray, List.set_cons_zero, List.set_cons_succ])
  go_cut [42] (fun v42 wc => ∃ (kq : Nat) (x42_8 : Bool), v42 = .bool x42_8 ∧ Aside0 (waterhourlaw04_RefillKnown.j0 kq l0 a1 l3 a4 a5 x42_8 a2_0 a2_1 = some r) ∧ Aside0 (kq ≤ k) ∧ Aside0 (Kd.V (Kd.int .i64) 3 wc w.heap.size (fun k_ => (P3_ k_ ∨ w.heap.size ≤ k_) ∧ k_ ≠ gb769) (.slice A3 l3.length c3) l3) ∧ Aside0 (wc.heap[gb769]? = some (.cells #[.int .i64 a2_0, .int .i64 a2_1] 49 (0, 0))) ∧ Aside0 (Below w.heap.size w wc))
  case first => as_aux_lemma =>
   have H := HC9.out
   clear HC9
   replace H := Option.bind_eq_some_iff.mp H
   obtain ⟨t771, A120, H⟩ := H
   replace H : (if t771 = true then ((waterhourlaw04_few.f k l0 (([l3] : List (List Int)))).bind fun t775 => (if t775 = true then ((waterhourref04_Event.f l0 a1 0).bind fun t776 => (waterhourlaw04_RefillKnown.j0 k l0 a1 l3 a4 a5 (!t776) a2_0 a2_1)) else (waterhourlaw04_RefillKnown.j0 k l0 a1 l3 a4 a5 true a2_0 a2_1))) else (waterhourlaw04_RefillKnown.j0 k l0 a1 l3 a4 a5 true a2_0 a2_1)) = some r := H
   have A12 := a_ A120
   clear A120
   by_cases c13 : t771 = true
   ·subst c13
    have H1 : ((waterhourlaw04_few.f k l0 (([l3] : List (List Int)))).bind fun t775 => (if t775 = true then ((waterhourref04_Event.f l0 a1 0).bind fun t776 => (waterhourlaw04_RefillKnown.j0 k l0 a1 l3 a4 a5 (!t776) a2_0 a2_1)) else (waterhourlaw04_RefillKnown.j0 k l0 a1 l3 a4 a5 true a2_0 a2_1))) = some r := by rw [if_pos rfl] at H; exact H
    clear H
    have H := H1
    clear H1
    obtain ⟨y772, hy772⟩ : ∃ y_ : List (List Int), y_ = (([l3] : List (List Int))) := ⟨_, rfl⟩
    replace H : ((waterhourlaw04_few.f k l0 y772).bind fun t775 => (if t775 = true then ((waterhourref04_Event.f l0 a1 0).bind fun t776 => (waterhourlaw04_RefillKnown.j0 k l0 a1 l3 a4 a5 (!t776) a2_0 a2_1)) else (waterhourlaw04_RefillKnown.j0 k l0 a1 l3 a4 a5 true a2_0 a2_1))) = some r := by first | (rw [hy772]; with_reducible exact H) | (have H2_ := (Option.bind_some _ _).symm.trans H; rw [hy772]; with_reducible exact H2_) | (have H2_ := (Option.bind_some _ _).symm.trans H; with_reducible exact H2_) | with_reducible exact H | (rw [hy772]; exact H) | exact H
    have Ny772 := a_ hy772
    clear hy772
    replace H := Option.bind_eq_some_iff.mp H
    obtain ⟨t775, A140, H⟩ := H
    replace H : (if t775 = true then ((waterhourref04_Event.f l0 a1 0).bind fun t776 => (waterhourlaw04_RefillKnown.j0 k l0 a1 l3 a4 a5 (!t776) a2_0 a2_1)) else (waterhourlaw04_RefillKnown.j0 k l0 a1 l3 a4 a5 true a2_0 a2_1)) = some r := H
    have A14 := a_ A140
    clear A140
    by_cases c15 : t775 = true
    ·subst c15
     have H1 : ((waterhourref04_Event.f l0 a1 0).bind fun t776 => (waterhourlaw04_RefillKnown.j0 k l0 a1 l3 a4 a5 (!t776) a2_0 a2_1)) = some r := by rw [if_pos rfl] at H; exact H
     clear H
     have H := H1
     clear H1
     replace H := Option.bind_eq_some_iff.mp H
     obtain ⟨t776, A160, H⟩ := H
     replace H : (waterhourlaw04_RefillKnown.j0 k l0 a1 l3 a4 a5 (!t776) a2_0 a2_1) = some r := H
     have A16 := a_ A160
     clear A160
     have H' := a_ H
     clear H
     go_wp2_with (first | ((with_reducible refine gate_callee (f := 31) rfl ?_); refine goesL_ (some 28) rfl rfl Tryd.func31 (by kernel_rfl) rfl #[.slice A0 l0.length c0] rfl tm_ ?_; (with_reducible refine (waterhourref04_Valid.calls k _ _ l0 true _ ?side1 ?side2 A12.out).mono ?_); (case side1 => exact cl_ (Kd.C_below HR0.out HB.out)); (case side2 => exact HC0.out); rintro e w17 ⟨rfl, hb⟩; refine ⟨_, rfl, ?_⟩; have n0_ := a_ (Kd.V_below (vl_ HO3.out) hb); have n1_ := a_ (bb_ BK769.out hb); have n2_ := a_ (below_step bl_ hb); clear HO3; clear BK769; clear HB; have HO3 := n0_; have BK769 := n1_; have HB := n2_; clear n0_ n1_ n2_; (try clear hb); (try clear hb2); (try clear hk); (try clear hi)) | ((with_reducible refine gate_dst (N := 33) rfl ?_); (try (refine gate_guard (by rfl) ?_; dsimp only)); refine Kd.N_lit (Kd.slice 3 (Kd.int .i64)) _ 26 ?hg (N' := 33) ?hd (xs := ([l3] : List (List Int))) (inner := [.slice A3 l3.length c3]) (ok := (fun k_ => (P3_ k_ ∨ w.heap.size ≤ k_) ∧ k_ ≠ gb769)) (okp := (fun k_ => (P3_ k_ ∨ w.heap.size ≤ k_) ∧ k_ ≠ gb769)) ?hr ?hp (fun _ hk => hk) ((show ∀ k_, w17.heap.size ≤ k_ → (fun k_ => (P3_ k_ ∨ w.heap.size ≤ k_) ∧ k_ ≠ gb769) k_ from fun k_ hk => ⟨(.inr (Nat.le_trans (below_size bl_) hk)), Kd.freshB (g := gb769) (o := .cells #[.int .i64 a2_0, .int .i64 a2_1] 49 (0, 0)) (by (with_reducible repeat (first | refine blk_drewN ?_ _ | refine blk_drew ?_ | refine blk_alloc ?_ _)); exact BK769.out) k_ hk⟩) _ (Nat.le_refl _)) (Below.refl _ _) (Nat.le_refl _) (by simp) ?_; (case hd => rfl); (case hg => rfl); (case hr => first | (go_simp; done) | (go_simp; rfl)); (case hp => exact (Reps.one (show Kd.FK (Kd.slice 3 (Kd.int .i64)) _ _ l3 [.slice A3 l3.length c3] from (Kd.FK_slice_mk (Kd.V_reads' (Kd.V_mono (ok' := (fun k_ => (P3_ k_ ∨ w.heap.size ≤ k_) ∧ k_ ≠ gb769)) (HO3.out) (fun k_ hk => ⟨hk.1, hk.2⟩))).2.1 (Kd.V_F (Kd.V_mono (ok' := (fun k_ => (P3_ k_ ∨ w.heap.size ≤ k_) ∧ k_ ≠ gb769)) (HO3.out) (fun k_ hk => ⟨hk.1, hk.2⟩))))) (Reps.none _ _))); intro v773 w18 ho19 hb hg_ hnew_; clear hg_ hnew_; (first | rw [← Ny772.out] at ho19 | (simp only [Int.reduceToNat] at ho19; rw [← Ny772.out] at ho19)); have n0_ := a_ (Kd.V_elder' (vl_ HO3.out) (Kd.N_base ho19) hb); have n1_ := a_ (Kd.N_lower ho19 (below_size bl_)); have n2_ := a_ (bb_ BK769.out hb); have n3_ := a_ (below_step bl_ hb); clear HO3; clear BK769; clear HB; have HO3 := n0_; have HO774 := n1_; have BK769 := n2_; have HB := n3_; clear n0_ n1_ n2_ n3_; clear hb ho19; obtain ⟨Ao20, co20, eo20⟩ := Kd.N_slice HO774.out; subst eo20) | (go_at_call 19; (with_reducible refine (waterhourlaw04_few.calls k _ _ l0 _ _ y772 true _ ?side1 ?side2 ?side3 ?side4 A14.out).mono ?_); (case side1 => exact cl_ (Kd.C_below HR0.out HB.out)); (case side2 => exact HC0.out); (case side3 => exact cl_ ((Kd.N_reads' HO774.out).2.2)); (case side4 => exact (Kd.N_reads' HO774.out).2.1); rintro e w' ⟨rfl, ⟨nd, rfl⟩⟩) | (go_at_call 36; (with_reducible refine (waterhourref04_Event.calls _ _ l0 a1 0 t776 _ ?side1 ?side2 A16.out).mono ?_); (case side1 => exact cl_ (Kd.C_below HR0.out bl_)); (case side2 => exact HC0.out); rintro e w' ⟨rfl, ⟨nd, rfl⟩⟩))
     go_meet
     case rel => exact ⟨_, (!t776), (by first | rfl | (simp; done) | (simp [*]; done)), H', ⟨by first | omega | exact Nat.le_refl _⟩, ⟨by (with_reducible repeat (first | apply Kd.V_alloc | apply Kd.V_drewN | apply Kd.V_drew)); exact Kd.V_mono HO3.out (fun _ hk => ⟨hk.1.1, hk.1.2⟩)⟩, ⟨bk_ BK769.out⟩, ⟨bl_⟩⟩
    ·replace c15 := Bool.eq_false_iff.mpr c15
     subst c15
     have H1 : (waterhourlaw04_RefillKnown.j0 k l0 a1 l3 a4 a5 true a2_0 a2_1) = some r := by rw [if_neg (show ¬ (false = true) by decide)] at H; exact H
     clear H
     have H := H1
     clear H1
     have H' := a_ H
     clear H
     go_wp2_with (first | ((with_reducible refine gate_callee (f := 31) rfl ?_); refine goesL_ (some 28) rfl rfl Tryd.func31 (by kernel_rfl) rfl #[.slice A0 l0.length c0] rfl tm_ ?_; (with_reducible refine (waterhourref04_Valid.calls k _ _ l0 true _ ?side1 ?side2 A12.out).mono ?_); (case side1 => exact cl_ (Kd.C_below HR0.out HB.out)); (case side2 => exact HC0.out); rintro e w21 ⟨rfl, hb⟩; refine ⟨_, rfl, ?_⟩; have n0_ := a_ (Kd.V_below (vl_ HO3.out) hb); have n1_ := a_ (bb_ BK769.out hb); have n2_ := a_ (below_step bl_ hb); clear HO3; clear BK769; clear HB; have HO3 := n0_; have BK769 := n1_; have HB := n2_; clear n0_ n1_ n2_; (try clear hb); (try clear hb2); (try clear hk); (try clear hi)) | ((with_reducible refine gate_dst (N := 33) rfl ?_); (try (refine gate_guard (by rfl) ?_; dsimp only)); refine Kd.N_lit (Kd.slice 3 (Kd.int .i64)) _ 26 ?hg (N' := 33) ?hd (xs := ([l3] : List (List Int))) (inner := [.slice A3 l3.length c3]) (ok := (fun k_ => (P3_ k_ ∨ w.heap.size ≤ k_) ∧ k_ ≠ gb769)) (okp := (fun k_ => (P3_ k_ ∨ w.heap.size ≤ k_) ∧ k_ ≠ gb769)) ?hr ?hp (fun _ hk => hk) ((show ∀ k_, w21.heap.size ≤ k_ → (fun k_ => (P3_ k_ ∨ w.heap.size ≤ k_) ∧ k_ ≠ gb769) k_ from fun k_ hk => ⟨(.inr (Nat.le_trans (below_size bl_) hk)), Kd.freshB (g := gb769) (o := .cells #[.int .i64 a2_0, .int .i64 a2_1] 49 (0, 0)) (by (with_reducible repeat (first | refine blk_drewN ?_ _ | refine blk_drew ?_ | refine blk_alloc ?_ _)); exact BK769.out) k_ hk⟩) _ (Nat.le_refl _)) (Below.refl _ _) (Nat.le_refl _) (by simp) ?_; (case hd => rfl); (case hg => rfl); (case hr => first | (go_simp; done) | (go_simp; rfl)); (case hp => exact (Reps.one (show Kd.FK (Kd.slice 3 (Kd.int .i64)) _ _ l3 [.slice A3 l3.length c3] from (Kd.FK_slice_mk (Kd.V_reads' (Kd.V_mono (ok' := (fun k_ => (P3_ k_ ∨ w.heap.size ≤ k_) ∧ k_ ≠ gb769)) (HO3.out) (fun k_ hk => ⟨hk.1, hk.2⟩))).2.1 (Kd.V_F (Kd.V_mono (ok' := (fun k_ => (P3_ k_ ∨ w.heap.size ≤ k_) ∧ k_ ≠ gb769)) (HO3.out) (fun k_ hk => ⟨hk.1, hk.2⟩))))) (Reps.none _ _))); intro v773 w22 ho23 hb hg_ hnew_; clear hg_ hnew_; (first | rw [← Ny772.out] at ho23 | (simp only [Int.reduceToNat] at ho23; rw [← Ny772.out] at ho23)); have n0_ := a_ (Kd.V_elder' (vl_ HO3.out) (Kd.N_base ho23) hb); have n1_ := a_ (Kd.N_lower ho23 (below_size bl_)); have n2_ := a_ (bb_ BK769.out hb); have n3_ := a_ (below_step bl_ hb); clear HO3; clear BK769; clear HB; have HO3 := n0_; have HO774 := n1_; have BK769 := n2_; have HB := n3_; clear n0_ n1_ n2_ n3_; clear hb ho23; obtain ⟨Ao24, co24, eo24⟩ := Kd.N_slice HO774.out; subst eo24) | (go_at_call 19; (with_reducible refine (waterhourlaw04_few.calls k _ _ l0 _ _ y772 false _ ?side1 ?side2 ?side3 ?side4 A14.out).mono ?_); (case side1 => exact cl_ (Kd.C_below HR0.out HB.out)); (case side2 => exact HC0.out); (case side3 => exact cl_ ((Kd.N_reads' HO774.out).2.2)); (case side4 => exact (Kd.N_reads' HO774.out).2.1); rintro e w' ⟨rfl, ⟨nd, rfl⟩⟩))
     go_meet
     case rel => exact ⟨_, (true), (by first | rfl | (simp; done) | (simp [*]; done)), H', ⟨by first | omega | exact Nat.le_refl _⟩, ⟨by (with_reducible repeat (first | apply Kd.V_alloc | apply Kd.V_drewN | apply Kd.V_drew)); exact Kd.V_mono HO3.out (fun _ hk => ⟨hk.1.1, hk.1.2⟩)⟩, ⟨bk_ BK769.out⟩, ⟨bl_⟩⟩
   ·replace c13 := Bool.eq_false_iff.mpr c13
    subst c13
    have H1 : (waterhourlaw04_RefillKnown.j0 k l0 a1 l3 a4 a5 true a2_0 a2_1) = some r := by rw [if_neg (show ¬ (false = true) by decide)] at H; exact H
    clear H
    have H := H1
    clear H1
    have H' := a_ H
    clear H
    go_wp2_with (first | ((with_reducible refine gate_callee (f := 31) rfl ?_); refine goesL_ (some 28) rfl rfl Tryd.func31 (by kernel_rfl) rfl #[.slice A0 l0.length c0] rfl tm_ ?_; (with_reducible refine (waterhourref04_Valid.calls k _ _ l0 false _ ?side1 ?side2 A12.out).mono ?_); (case side1 => exact cl_ (Kd.C_below HR0.out HB.out)); (case side2 => exact HC0.out); rintro e w25 ⟨rfl, hb⟩; refine ⟨_, rfl, ?_⟩; have n0_ := a_ (Kd.V_below (vl_ HO3.out) hb); have n1_ := a_ (bb_ BK769.out hb); have n2_ := a_ (below_step bl_ hb); clear HO3; clear BK769; clear HB; have HO3 := n0_; have BK769 := n1_; have HB := n2_; clear n0_ n1_ n2_; (try clear hb); (try clear hb2); (try clear hk); (try clear hi)))
    go_meet
    case rel => exact ⟨_, (true), (by first | rfl | (simp; done) | (simp [*]; done)), H', ⟨by first | omega | exact Nat.le_refl _⟩, ⟨vl_ HO3.out⟩, ⟨bk_ BK769.out⟩, ⟨bl_⟩⟩
  case rest =>
   clear HC9
   try clear c1
   try clear p2
   try clear c3
   try clear c8
   try clear c13
   try clear c14
   try clear c15
   try clear c18
   obtain ⟨kq, x42_8, rfl, HA, HJ8, HO_3, BK769, HB⟩ := hcut
   cases kq with
   | zero => exact absurd HA.out (by simp [waterhourlaw04_RefillKnown.j0])
   | succ kj8 =>
    have H := HA.out
    clear HA
    simp only [waterhourlaw04_RefillKnown.j0] at H
    by_cases c26 : x42_8 = true
    ·subst c26
     have H1 : (some true) = some r := by rw [if_pos rfl] at H; exact H
     clear H
     have H := H1
     clear H1
     obtain rfl := Option.some.inj H
     go_wp2
     go_ret
     exact ⟨by first | rfl | (simp [errW_none, errW_some] <;> rfl) | (simp [*, errW_none, errW_some] <;> rfl), bl_⟩
    ·replace c26 := Bool.eq_false_iff.mpr c26
     subst c26
     have H1 : ((refill_Known.f l0 a1 a2_0 a2_1).bind fun bt777 => (if bt777.2 = 0 then ((refill_CheckTimes.f l0 l3).bind fun t781 => ((refill_CheckTimes.f bt777.1 l3).bind fun t782 => (if t781 = 0 then (if 0 ≤ a1 then (if a1 < (l3.length : Int) then (if (rd l3 a1) ≥ a2_0 then (waterhourlaw04_RefillKnown.j1 kj8 l0 a4 a5 bt777.1 ((t782 == 0) != (decide ((rd l3 a1) ≤ a2_1)))) else (waterhourlaw04_RefillKnown.j1 kj8 l0 a4 a5 bt777.1 ((t782 == 0) != false))) else (none)) else (none)) else (waterhourlaw04_RefillKnown.j1 kj8 l0 a4 a5 bt777.1 ((t782 == 0) != false))))) else (if (bt777.1.length : Int) = 0 then (if bt777.2 = 1 then (some true) else (some (bt777.2 == 4))) else (some false)))) = some r := by rw [if_neg (show ¬ (false = true) by decide)] at H; exact H
     clear H
     have H := H1
     clear H1
     replace H := Option.bind_eq_some_iff.mp H
     obtain ⟨⟨t777, t780⟩, A270, H⟩ := H
     replace H : (if t780 = 0 then ((refill_CheckTimes.f l0 l3).bind fun t781 => ((refill_CheckTimes.f t777 l3).bind fun t782 => (if t781 = 0 then (if 0 ≤ a1 then (if a1 < (l3.length : Int) then (if (rd l3 a1) ≥ a2_0 then (waterhourlaw04_RefillKnown.j1 kj8 l0 a4 a5 t777 ((t782 == 0) != (decide ((rd l3 a1) ≤ a2_1)))) else (waterhourlaw04_RefillKnown.j1 kj8 l0 a4 a5 t777 ((t782 == 0) != false))) else (none)) else (none)) else (waterhourlaw04_RefillKnown.j1 kj8 l0 a4 a5 t777 ((t782 == 0) != false))))) else (if (t777.length : Int) = 0 then (if t780 = 1 then (some true) else (some (t780 == 4))) else (some false))) = some r := H
     have A27 := a_ A270
     clear A270
     by_cases c28 : t780 = 0
     ·rw [if_pos c28] at H
      have c28b0 : (t780 == 0) = true := beq_iff_eq.mpr c28
      have c28b1 : (t780 != 0) = false := bne_eq_false_iff_eq.mpr c28
      clear c28
      replace H := Option.bind_eq_some_iff.mp H
      obtain ⟨t781, A290, H⟩ := H
      replace H : ((refill_CheckTimes.f t777 l3).bind fun t782 => (if t781 = 0 then (if 0 ≤ a1 then (if a1 < (l3.length : Int) then (if (rd l3 a1) ≥ a2_0 then (waterhourlaw04_RefillKnown.j1 kj8 l0 a4 a5 t777 ((t782 == 0) != (decide ((rd l3 a1) ≤ a2_1)))) else (waterhourlaw04_RefillKnown.j1 kj8 l0 a4 a5 t777 ((t782 == 0) != false))) else (none)) else (none)) else (waterhourlaw04_RefillKnown.j1 kj8 l0 a4 a5 t777 ((t782 == 0) != false)))) = some r := H
      have A29 := a_ A290
      clear A290
      have HC30 := a_ H
      clear H
      have hcz31_0 : wc.cell? ⟨gb769, 0, none⟩ = some (.int .i64 a2_0) := (blk_cell BK769.out 0).trans rfl
      have hcz31_1 : wc.cell? ⟨gb769, 1, none⟩ = some (.int .i64 a2_1) := (blk_cell BK769.out 1).trans rfl
      have hfz31_0 := blk_frozen BK769.out 0
      have hfz31_1 := blk_frozen BK769.out 1
      go_upto_region 9 with (first | ((with_reducible refine gate_callee (f := 45) rfl ?_); refine goesL_ (some 47) rfl rfl Tryd.func45 (by kernel_rfl) rfl #[.slice A0 l0.length c0, .int .i64 a1, .agg #[.int .i64 a2_0, .int .i64 a2_1]] rfl tm_ ?_; (with_reducible refine (refill_Known.calls _ _ l0 a1 a2_0 a2_1 t777 t780 _ ?side1 ?side2 A27.out).mono ?_); (case side1 => exact cl_ (Kd.C_below HR0.out HB.out)); (case side2 => exact HC0.out); rintro e w32 ⟨v778, rfl, ho0, hb⟩; refine ⟨_, rfl, ?_⟩; have n0_ := a_ (Kd.V_elder' (vl_ HO_3.out) (Kd.R_base ho0) hb); have n1_ := a_ (Kd.R_lower (Kd.R_newM (M := fun k_ => (w.heap.size ≤ k_)) ho0 (below_size bl_) (fun k_ h_ => h_)) (below_size bl_)); have n2_ := a_ (bb_ BK769.out hb); have n3_ := a_ (below_step bl_ hb); clear HO_3; clear BK769; clear HB; have HO_3 := n0_; have HO779 := n1_; have BK769 := n2_; have HB := n3_; clear n0_ n1_ n2_ n3_; (try clear hb); (try clear hb2); (try clear hk); (try clear hi); (try clear ho0)) | ((with_reducible refine gate_callee (f := 33) rfl ?_); refine goesL_ (some 65) rfl rfl Tryd.func33 (by kernel_rfl) rfl #[.slice A0 l0.length c0, .slice A3 l3.length c3] rfl tm_ ?_; (with_reducible refine (refill_CheckTimes.calls _ _ l0 _ _ l3 t781 _ ?side1 ?side2 ?side3 ?side4 A29.out).mono ?_); (case side1 => exact cl_ (Kd.C_below HR0.out HB.out)); (case side2 => exact HC0.out); (case side3 => exact cl_ ((Kd.V_reads' HO_3.out).2.2)); (case side4 => exact (Kd.V_reads' HO_3.out).2.1); rintro e w33 ⟨rfl, hb⟩; refine ⟨_, rfl, ?_⟩; have n0_ := a_ (Kd.V_below (vl_ HO_3.out) hb); have n1_ := a_ (Kd.R_below (rl_ HO779.out) hb); have n2_ := a_ (bb_ BK769.out hb); have n3_ := a_ (below_step bl_ hb); clear HO_3; clear HO779; clear BK769; clear HB; have HO_3 := n0_; have HO779 := n1_; have BK769 := n2_; have HB := n3_; clear n0_ n1_ n2_ n3_; (try clear hb); (try clear hb2); (try clear hk); (try clear hi)))
      (try simp only [Act.put, List.setIfInBounds_toArray, List.set_cons_zero, List.set_cons_succ])
      go_cut [15, 90] (fun v15 v90 wc => ∃ (kq : Nat) (x90_29 : Bool), v90 = .bool x90_29 ∧ Aside0 (waterhourlaw04_RefillKnown.j1 kq l0 a4 a5 t777 x90_29 = some r) ∧ Aside0 (kq ≤ kj8) ∧ Aside0 (Kd.R k51 51 wc w.heap.size (fun k_ => (w.heap.size ≤ k_)) v778 t777) ∧ Aside0 (wc.heap[gb769]? = some (.cells #[.int .i64 a2_0, .int .i64 a2_1] 49 (0, 0))) ∧ Aside0 (Below w.heap.size w wc))
      case first => as_aux_lemma =>
       have H := HC30.out
       clear HC30
       replace H := Option.bind_eq_some_iff.mp H
       obtain ⟨t782, A340, H⟩ := H
       replace H : (if t781 = 0 then (if 0 ≤ a1 then (if a1 < (l3.length : Int) then (if (rd l3 a1) ≥ a2_0 then (waterhourlaw04_RefillKnown.j1 kj8 l0 a4 a5 t777 ((t782 == 0) != (decide ((rd l3 a1) ≤ a2_1)))) else (waterhourlaw04_RefillKnown.j1 kj8 l0 a4 a5 t777 ((t782 == 0) != false))) else (none)) else (none)) else (waterhourlaw04_RefillKnown.j1 kj8 l0 a4 a5 t777 ((t782 == 0) != false))) = some r := H
       have A34 := a_ A340
       clear A340
       by_cases c35 : t781 = 0
       ·rw [if_pos c35] at H
        have c35b0 : (t781 == 0) = true := beq_iff_eq.mpr c35
        have c35b1 : (t781 != 0) = false := bne_eq_false_iff_eq.mpr c35
        clear c35
        (first | rw [c35b0] | (simp only [i64_w, i32_w]; rw [c35b0]) | skip)
        by_cases c36 : 0 ≤ a1
        ·rw [if_pos c36] at H
         have c36b0 : decide (0 ≤ a1) = true := decide_eq_true c36
         clear c36
         by_cases c37 : a1 < (l3.length : Int)
         ·rw [if_pos c37] at H
          have c37b0 : decide (a1 < (l3.length : Int)) = true := decide_eq_true c37
          clear c37
          by_cases c38 : (rd l3 a1) ≥ a2_0
          ·rw [if_pos c38] at H
           have c38b0 : decide (a2_0 ≤ (rd l3 a1)) = true := decide_eq_true c38
           clear c38
           have H' := a_ H
           clear H
           try go_wp2
           have n0_ := a_ (Kd.V_drew HO_3.out)
           have n1_ := a_ (Kd.R_drew HO779.out)
           have n2_ := a_ (blk_drew BK769.out)
           have n3_ := a_ (below_drew1 HB.out)
           clear HO_3
           clear HO779
           clear BK769
           clear HB
           have HO_3 := n0_
           have HO779 := n1_
           have BK769 := n2_
           have HB := n3_
           clear n0_ n1_ n2_ n3_
           obtain ⟨Ao40, co40, eo40⟩ := Kd.R_slice HO779.out
           (first | subst eo40 | (injection eo40 with f1_ f2_ f3_; have f4_ := f1_.symm; have f5_ := f3_.symm; clear f1_ f2_ f3_; subst f4_; subst f5_))
           have p783 : 0 ≤ (a1 : Int) := of_decide_eq_true (by first | (with_reducible assumption) | assumption)
           have q783 : a1 < (l3.length : Int) := of_decide_eq_true (by first | (with_reducible assumption) | assumption)
           obtain ⟨ad783, e783, hx783_0⟩ := Kd.at_int (Kd.V_reads' HO_3.out).2.2 a1 p783 q783
           cases e783
           replace p783 := eq_true p783
           replace q783 := eq_true q783
           have p784 : 0 ≤ (a1 : Int) := of_decide_eq_true (by first | (with_reducible assumption) | assumption)
           have q784 : a1 < (l3.length : Int) := of_decide_eq_true (by first | (with_reducible assumption) | assumption)
           obtain ⟨ad784, e784, hx784_0⟩ := Kd.at_int (Kd.V_reads' HO_3.out).2.2 a1 p784 q784
           obtain rfl : ad783 = ad784 := (by injection e784)
           replace p784 := eq_true p784
           replace q784 := eq_true q784
           refine start_ (n := 24) (S := fun w' => w'.cell? ⟨gb769, 0, none⟩ = some (.int .i64 a2_0) ∧ w'.cell? ⟨gb769, 1, none⟩ = some (.int .i64 a2_1) ∧ w'.cell? (ad783.add (a1).toNat) = some (.int .i64 (rd l3 a1)) ∧ w'.cell? (ad783.add (a1).toNat) = some (.int .i64 (rd l3 a1))) (ds := []) #[false, false, false, false, false, false, false, false, false, false, false, false, false, false, false, false, false, false, false, false, false, false, false, false] (by kernel_rfl) rfl rfl ⟨(blk_cell BK769.out 0).trans rfl, (blk_cell BK769.out 1).trans rfl, hx783_0, hx784_0⟩ (fun hHeld => ?_); refine with_tabW waterhourlaw04_RefillKnown.tab9 waterhourlaw04_RefillKnown.bits9 (fun HT_ HW_ => ?_)
           generalize w33.drew = w39 at HO_3 HO779 BK769 HB hx783_0 hx784_0 hHeld ⊢
           refine pz_ 0 67 HT_ ?_
           refine pz_ 1 68 HT_ ?_
           refine pz_ 4 71 HT_ ?_
           refine one_ (i := 2) (N := some 69) #[true, true, true, false, true, false, false, false, false, false, false, false, false, false, false, false, false, false, false, false, false, false, false, false] rfl rfl (one_of HT_.out (by kernel_rfl)) (by decide) (fun K hK => ?_)
           refine goes_ Tryd.func33 (by kernel_rfl) rfl #[.slice Ao40 t777.length co40, .slice (some ad783) l3.length c3] (by rfl) rfl rfl tm_ ?_
           with_reducible refine (refill_CheckTimes.calls _ _ t777 _ _ l3 t782 _ ?side1 ?side2 ?side3 ?side4 A34.out).mono ?_
           (case side1 => exact cl_ ((Kd.R_reads' HO779.out).2.2))
           (case side2 => exact (Kd.R_reads' HO779.out).2.1)
           (case side3 => exact cl_ ((Kd.V_reads' HO_3.out).2.2))
           (case side4 => exact (Kd.V_reads' HO_3.out).2.1)
           rintro e w41 ⟨rfl, hb⟩
           have HS2_ := (hb.cell (World.block_lt_of_cell? _ _ (hHeld.2.2.1))).trans (hHeld.2.2.1)
           have HS3_ := (hb.cell (World.block_lt_of_cell? _ _ (hHeld.2.2.2))).trans (hHeld.2.2.2)
           refine ⟨_, rfl, ?_⟩
           have n0_ := a_ (Kd.V_below (vl_ HO_3.out) hb)
           have n1_ := a_ (Kd.R_below (rl_ HO779.out) hb)
           have n2_ := a_ (bb_ BK769.out hb)
           have n3_ := a_ (below_step bl_ hb)
           clear HO_3
           clear HO779
           clear BK769
           clear HB
           have HO_3 := n0_
           have HO779 := n1_
           have BK769 := n2_
           have HB := n3_
           clear n0_ n1_ n2_ n3_
           (try clear hb)
           (try clear hb2)
           (try clear hk)
           (try clear hi)
           refine hK.out _ _ ⟨(blk_cell BK769.out 0).trans rfl, (blk_cell BK769.out 1).trans rfl, HS2_, HS3_⟩ (fun hHeld => ?_)
           clear hK K
           refine norm_ (a' := ?_) ?_ ?_
           rotate_left
           ·show Act.put _ (some 69) _ = _
            simp only [Act.put, List.setIfInBounds_toArray, List.set_cons_zero, List.set_cons_succ, i64_w, i32_w]
            rfl
           refine pz_ 3 70 HT_ ?_
           refine pz_ 5 72 HT_ ?_
           refine pz_ 6 73 HT_ ?_
           refine pz_ 7 74 HT_ ?_
           refine pz_ 8 75 HT_ ?_
           refine pz_ 10 77 HT_ ?_
           refine take_ (i := 9) (N := some 76) (v := ?_) (a' := ?_) #[true, true, true, true, true, true, true, true, true, true, true, false, false, false, false, false, false, false, false, false, false, false, false, false] rfl rfl (take_ofW HT_.out HW_.out (by kernel_rfl)) (fun _ _ _ h => h) (Or.inl ⟨by rfl, ?_⟩) hHeld ?_ ?_
           rotate_left
           ·rintro w' ⟨s0, s1, s2, s3⟩
            go_simp
            with_reducible rfl
           rotate_left
           ·simp only [Act.put, List.setIfInBounds_toArray, List.set_cons_zero, List.set_cons_succ, i64_w, i32_w]
            rfl
           refine take_ (i := 11) (N := some 78) (v := ?_) (a' := ?_) #[true, true, true, true, true, true, true, true, true, true, true, true, false, false, false, false, false, false, false, false, false, false, false, false] rfl rfl (take_ofW HT_.out HW_.out (by kernel_rfl)) (fun _ _ _ h => h) (Or.inl ⟨by rfl, ?_⟩) hHeld ?_ ?_
           rotate_left
           ·rintro w' ⟨s0, s1, s2, s3⟩
            go_simp
            with_reducible rfl
           rotate_left
           ·simp only [Act.put, List.setIfInBounds_toArray, List.set_cons_zero, List.set_cons_succ, i64_w, i32_w]
            rfl
           refine pz_ 12 79 HT_ ?_
           refine pz_ 13 80 HT_ ?_
           refine pz_ 14 81 HT_ ?_
           refine pz_ 15 82 HT_ ?_
           refine pz_ 16 83 HT_ ?_
           refine pz_ 17 84 HT_ ?_
           refine pz_ 19 86 HT_ ?_
           refine take_ (i := 18) (N := some 85) (v := ?_) (a' := ?_) #[true, true, true, true, true, true, true, true, true, true, true, true, true, true, true, true, true, true, true, true, false, false, false, false] rfl rfl (take_ofW HT_.out HW_.out (by kernel_rfl)) (fun _ _ _ h => h) (Or.inl ⟨by rfl, ?_⟩) hHeld ?_ ?_
           rotate_left
           ·rintro w' ⟨s0, s1, s2, s3⟩
            go_simp
            with_reducible rfl
           rotate_left
           ·simp only [Act.put, List.setIfInBounds_toArray, List.set_cons_zero, List.set_cons_succ, i64_w, i32_w]
            rfl
           refine take_ (i := 20) (N := some 87) (v := ?_) (a' := ?_) #[true, true, true, true, true, true, true, true, true, true, true, true, true, true, true, true, true, true, true, true, true, false, false, false] rfl rfl (take_ofW HT_.out HW_.out (by kernel_rfl)) (fun _ _ _ h => h) (Or.inl ⟨by rfl, ?_⟩) hHeld ?_ ?_
           rotate_left
           ·rintro w' ⟨s0, s1, s2, s3⟩
            go_simp
            with_reducible rfl
           rotate_left
           ·simp only [Act.put, List.setIfInBounds_toArray, List.set_cons_zero, List.set_cons_succ, i64_w, i32_w]
            rfl
           refine pz_ 21 88 HT_ ?_
           refine pz_ 22 89 HT_ ?_
           refine pz_ 23 90 HT_ ?_
           refine done_ (done_of HT_.out (by kernel_rfl)) ?_
           try go_wp2
           go_meet
           case rel => exact ⟨_, (((t782 == 0) != (decide ((rd l3 a1) ≤ a2_1)))), (by first | rfl | (simp; done) | (simp [*]; done)), H', ⟨by have := HJ8.out; first | omega | exact Nat.le_refl _⟩, ⟨rl_ (Kd.R_mono HO779.out (fun _ hk => hk.1))⟩, ⟨bk_ BK769.out⟩, ⟨bl_⟩⟩
          ·rw [if_neg c38] at H
           have c38b0 : decide (a2_0 ≤ (rd l3 a1)) = false := decide_eq_false c38
           clear c38
           have H' := a_ H
           clear H
           try go_wp2
           have n0_ := a_ (Kd.V_drew HO_3.out)
           have n1_ := a_ (Kd.R_drew HO779.out)
           have n2_ := a_ (blk_drew BK769.out)
           have n3_ := a_ (below_drew1 HB.out)
           clear HO_3
           clear HO779
           clear BK769
           clear HB
           have HO_3 := n0_
           have HO779 := n1_
           have BK769 := n2_
           have HB := n3_
           clear n0_ n1_ n2_ n3_
           obtain ⟨Ao43, co43, eo43⟩ := Kd.R_slice HO779.out
           (first | subst eo43 | (injection eo43 with f1_ f2_ f3_; have f4_ := f1_.symm; have f5_ := f3_.symm; clear f1_ f2_ f3_; subst f4_; subst f5_))
           have p783 : 0 ≤ (a1 : Int) := of_decide_eq_true (by first | (with_reducible assumption) | assumption)
           have q783 : a1 < (l3.length : Int) := of_decide_eq_true (by first | (with_reducible assumption) | assumption)
           obtain ⟨ad783, e783, hx783_0⟩ := Kd.at_int (Kd.V_reads' HO_3.out).2.2 a1 p783 q783
           cases e783
           replace p783 := eq_true p783
           replace q783 := eq_true q783
           refine start_ (n := 24) (S := fun w' => w'.cell? ⟨gb769, 0, none⟩ = some (.int .i64 a2_0) ∧ w'.cell? ⟨gb769, 1, none⟩ = some (.int .i64 a2_1) ∧ w'.cell? (ad783.add (a1).toNat) = some (.int .i64 (rd l3 a1))) (ds := []) #[false, false, false, false, false, false, false, false, false, false, false, false, false, false, false, false, false, false, false, false, false, false, false, false] (by kernel_rfl) rfl rfl ⟨(blk_cell BK769.out 0).trans rfl, (blk_cell BK769.out 1).trans rfl, hx783_0⟩ (fun hHeld => ?_); refine with_tabW waterhourlaw04_RefillKnown.tab9 waterhourlaw04_RefillKnown.bits9 (fun HT_ HW_ => ?_)
           generalize w33.drew = w42 at HO_3 HO779 BK769 HB hx783_0 hHeld ⊢
           refine pz_ 0 67 HT_ ?_
           refine pz_ 1 68 HT_ ?_
           refine pz_ 4 71 HT_ ?_
           refine one_ (i := 2) (N := some 69) #[true, true, true, false, true, false, false, false, false, false, false, false, false, false, false, false, false, false, false, false, false, false, false, false] rfl rfl (one_of HT_.out (by kernel_rfl)) (by decide) (fun K hK => ?_)
           refine goes_ Tryd.func33 (by kernel_rfl) rfl #[.slice Ao43 t777.length co43, .slice (some ad783) l3.length c3] (by rfl) rfl rfl tm_ ?_
           with_reducible refine (refill_CheckTimes.calls _ _ t777 _ _ l3 t782 _ ?side1 ?side2 ?side3 ?side4 A34.out).mono ?_
           (case side1 => exact cl_ ((Kd.R_reads' HO779.out).2.2))
           (case side2 => exact (Kd.R_reads' HO779.out).2.1)
           (case side3 => exact cl_ ((Kd.V_reads' HO_3.out).2.2))
           (case side4 => exact (Kd.V_reads' HO_3.out).2.1)
           rintro e w44 ⟨rfl, hb⟩
           have HS2_ := (hb.cell (World.block_lt_of_cell? _ _ (hHeld.2.2))).trans (hHeld.2.2)
           refine ⟨_, rfl, ?_⟩
           have n0_ := a_ (Kd.V_below (vl_ HO_3.out) hb)
           have n1_ := a_ (Kd.R_below (rl_ HO779.out) hb)
           have n2_ := a_ (bb_ BK769.out hb)
           have n3_ := a_ (below_step bl_ hb)
           clear HO_3
           clear HO779
           clear BK769
           clear HB
           have HO_3 := n0_
           have HO779 := n1_
           have BK769 := n2_
           have HB := n3_
           clear n0_ n1_ n2_ n3_
           (try clear hb)
           (try clear hb2)
           (try clear hk)
           (try clear hi)
           refine hK.out _ _ ⟨(blk_cell BK769.out 0).trans rfl, (blk_cell BK769.out 1).trans rfl, HS2_⟩ (fun hHeld => ?_)
           clear hK K
           refine norm_ (a' := ?_) ?_ ?_
           rotate_left
           ·show Act.put _ (some 69) _ = _
            simp only [Act.put, List.setIfInBounds_toArray, List.set_cons_zero, List.set_cons_succ, i64_w, i32_w]
            rfl
           refine pz_ 3 70 HT_ ?_
           refine pz_ 5 72 HT_ ?_
           refine pz_ 6 73 HT_ ?_
           refine pz_ 7 74 HT_ ?_
           refine pz_ 8 75 HT_ ?_
           refine pz_ 10 77 HT_ ?_
           refine take_ (i := 9) (N := some 76) (v := ?_) (a' := ?_) #[true, true, true, true, true, true, true, true, true, true, true, false, false, false, false, false, false, false, false, false, false, false, false, false] rfl rfl (take_ofW HT_.out HW_.out (by kernel_rfl)) (fun _ _ _ h => h) (Or.inl ⟨by rfl, ?_⟩) hHeld ?_ ?_
           rotate_left
           ·rintro w' ⟨s0, s1, s2⟩
            go_simp
            with_reducible rfl
           rotate_left
           ·simp only [Act.put, List.setIfInBounds_toArray, List.set_cons_zero, List.set_cons_succ, i64_w, i32_w]
            rfl
           refine take_ (i := 11) (N := some 78) (v := ?_) (a' := ?_) #[true, true, true, true, true, true, true, true, true, true, true, true, false, false, false, false, false, false, false, false, false, false, false, false] rfl rfl (take_ofW HT_.out HW_.out (by kernel_rfl)) (fun _ _ _ h => h) (Or.inl ⟨by rfl, ?_⟩) hHeld ?_ ?_
           rotate_left
           ·rintro w' ⟨s0, s1, s2⟩
            go_simp
            with_reducible rfl
           rotate_left
           ·simp only [Act.put, List.setIfInBounds_toArray, List.set_cons_zero, List.set_cons_succ, i64_w, i32_w]
            rfl
           refine pz_ 12 79 HT_ ?_
           refine pz_ 13 80 HT_ ?_
           refine pz_ 14 81 HT_ ?_
           refine pu_ 15 82 HT_ ?_
           refine pu_ 16 83 HT_ ?_
           refine pu_ 17 84 HT_ ?_
           refine pu_ 18 85 HT_ ?_
           refine pu_ 19 86 HT_ ?_
           refine pu_ 20 87 HT_ ?_
           refine pu_ 21 88 HT_ ?_
           refine pz_ 22 89 HT_ ?_
           refine pz_ 23 90 HT_ ?_
           refine done_ (done_of HT_.out (by kernel_rfl)) ?_
           try go_wp2
           go_meet
           case rel => exact ⟨_, (((t782 == 0) != false)), (by first | rfl | (simp; done) | (simp [*]; done)), H', ⟨by have := HJ8.out; first | omega | exact Nat.le_refl _⟩, ⟨rl_ (Kd.R_mono HO779.out (fun _ hk => hk.1))⟩, ⟨bk_ BK769.out⟩, ⟨bl_⟩⟩
         ·rw [if_neg c37] at H
          exact absurd H (by simp)
        ·rw [if_neg c36] at H
         exact absurd H (by simp)
       ·rw [if_neg c35] at H
        have c35b0 : (t781 == 0) = false := beq_eq_false_iff_ne.mpr c35
        have c35b1 : (t781 != 0) = true := bne_iff_ne.mpr c35
        (first | rw [c35b0] | (simp only [i64_w, i32_w]; rw [c35b0]) | skip)
        have H' := a_ H
        clear H
        try go_wp2
        have n0_ := a_ (Kd.V_drew HO_3.out)
        have n1_ := a_ (Kd.R_drew HO779.out)
        have n2_ := a_ (blk_drew BK769.out)
        have n3_ := a_ (below_drew1 HB.out)
        clear HO_3
        clear HO779
        clear BK769
        clear HB
        have HO_3 := n0_
        have HO779 := n1_
        have BK769 := n2_
        have HB := n3_
        clear n0_ n1_ n2_ n3_
        obtain ⟨Ao46, co46, eo46⟩ := Kd.R_slice HO779.out
        (first | subst eo46 | (injection eo46 with f1_ f2_ f3_; have f4_ := f1_.symm; have f5_ := f3_.symm; clear f1_ f2_ f3_; subst f4_; subst f5_))
        refine start_ (n := 24) (S := fun w' => True) (ds := []) #[false, false, false, false, false, false, false, false, false, false, false, false, false, false, false, false, false, false, false, false, false, false, false, false] (by kernel_rfl) rfl rfl trivial (fun hHeld => ?_); refine with_tabW waterhourlaw04_RefillKnown.tab9 waterhourlaw04_RefillKnown.bits9 (fun HT_ HW_ => ?_)
        generalize w33.drew = w45 at HO_3 HO779 BK769 HB hHeld ⊢
        refine pz_ 0 67 HT_ ?_
        refine pz_ 1 68 HT_ ?_
        refine pz_ 4 71 HT_ ?_
        refine one_ (i := 2) (N := some 69) #[true, true, true, false, true, false, false, false, false, false, false, false, false, false, false, false, false, false, false, false, false, false, false, false] rfl rfl (one_of HT_.out (by kernel_rfl)) (by decide) (fun K hK => ?_)
        refine goes_ Tryd.func33 (by kernel_rfl) rfl #[.slice Ao46 t777.length co46, .slice A3 l3.length c3] (by rfl) rfl rfl tm_ ?_
        with_reducible refine (refill_CheckTimes.calls _ _ t777 _ _ l3 t782 _ ?side1 ?side2 ?side3 ?side4 A34.out).mono ?_
        (case side1 => exact cl_ ((Kd.R_reads' HO779.out).2.2))
        (case side2 => exact (Kd.R_reads' HO779.out).2.1)
        (case side3 => exact cl_ ((Kd.V_reads' HO_3.out).2.2))
        (case side4 => exact (Kd.V_reads' HO_3.out).2.1)
        rintro e w47 ⟨rfl, hb⟩
        refine ⟨_, rfl, ?_⟩
        have n0_ := a_ (Kd.V_below (vl_ HO_3.out) hb)
        have n1_ := a_ (Kd.R_below (rl_ HO779.out) hb)
        have n2_ := a_ (bb_ BK769.out hb)
        have n3_ := a_ (below_step bl_ hb)
        clear HO_3
        clear HO779
        clear BK769
        clear HB
        have HO_3 := n0_
        have HO779 := n1_
        have BK769 := n2_
        have HB := n3_
        clear n0_ n1_ n2_ n3_
        (try clear hb)
        (try clear hb2)
        (try clear hk)
        (try clear hi)
        refine hK.out _ _ trivial (fun hHeld => ?_)
        clear hK K
        refine norm_ (a' := ?_) ?_ ?_
        rotate_left
        ·show Act.put _ (some 69) _ = _
         simp only [Act.put, List.setIfInBounds_toArray, List.set_cons_zero, List.set_cons_succ, i64_w, i32_w]
         rfl
        refine pz_ 3 70 HT_ ?_
        refine pz_ 5 72 HT_ ?_
        refine pu_ 6 73 HT_ ?_
        refine pu_ 7 74 HT_ ?_
        refine pu_ 8 75 HT_ ?_
        refine pu_ 9 76 HT_ ?_
        refine pu_ 10 77 HT_ ?_
        refine pu_ 11 78 HT_ ?_
        refine pu_ 12 79 HT_ ?_
        refine pz_ 13 80 HT_ ?_
        refine pz_ 14 81 HT_ ?_
        refine pu_ 15 82 HT_ ?_
        refine pu_ 16 83 HT_ ?_
        refine pu_ 17 84 HT_ ?_
        refine pu_ 18 85 HT_ ?_
        refine pu_ 19 86 HT_ ?_
        refine pu_ 20 87 HT_ ?_
        refine pu_ 21 88 HT_ ?_
        refine pz_ 22 89 HT_ ?_
        refine pz_ 23 90 HT_ ?_
        refine done_ (done_of HT_.out (by kernel_rfl)) ?_
        try go_wp2
        go_meet
        case rel => exact ⟨_, (((t782 == 0) != false)), (by first | rfl | (simp; done) | (simp [*]; done)), H', ⟨by have := HJ8.out; first | omega | exact Nat.le_refl _⟩, ⟨rl_ (Kd.R_mono HO779.out (fun _ hk => hk.1))⟩, ⟨bk_ BK769.out⟩, ⟨bl_⟩⟩
      case rest =>
       clear HC30
       try clear p2
       try clear c3
       try clear p7
       try clear q7
       try clear hx7
       try clear c33
       try clear c35
       try clear c35b0
       try clear c35b1
       try clear c36
       try clear c37
       try clear c38
       try clear c38b0
       try clear hx783_0
       try clear p783
       try clear q783
       obtain ⟨kq, x90_29, rfl, HA, HJ29, HO_13, BK769, HB⟩ := hcut
       cases kq with
       | zero => exact absurd HA.out (by simp [waterhourlaw04_RefillKnown.j1])
       | succ kj29 =>
        have H := HA.out
        clear HA
        simp only [waterhourlaw04_RefillKnown.j1] at H
        by_cases c48 : x90_29 = true
        ·subst c48
         have H1 : (some false) = some r := by rw [if_pos rfl] at H; exact H
         clear H
         have H := H1
         clear H1
         exact absurd (H.trans (congrArg some hrt.out)) (by simp)
        ·replace c48 := Bool.eq_false_iff.mpr c48
         subst c48
         have H1 : ((refill_Possible.f kj29 t777).bind fun bt785 => (if bt785.2 = 0 then (waterhourlaw04_RefillKnown.j2 kj29 l0 a4 a5 t777 bt785.2 (!bt785.1)) else (waterhourlaw04_RefillKnown.j2 kj29 l0 a4 a5 t777 bt785.2 true))) = some r := by rw [if_neg (show ¬ (false = true) by decide)] at H; exact H
         clear H
         have H := H1
         clear H1
         replace H := Option.bind_eq_some_iff.mp H
         obtain ⟨⟨t785, t786⟩, A490, H⟩ := H
         replace H : (if t786 = 0 then (waterhourlaw04_RefillKnown.j2 kj29 l0 a4 a5 t777 t786 (!t785)) else (waterhourlaw04_RefillKnown.j2 kj29 l0 a4 a5 t777 t786 true)) = some r := H
         have A49 := a_ A490
         clear A490
         have HC50 := a_ H
         clear H
         obtain ⟨Ao51, co51, eo51⟩ := Kd.R_slice HO_13.out
         subst eo51
         go_upto_region 12 with (first | ((with_reducible refine gate_callee (f := 40) rfl ?_); refine goesL_ (some 93) rfl rfl Tryd.func40 (by kernel_rfl) rfl #[.slice Ao51 t777.length co51] rfl tm_ ?_; (with_reducible refine (refill_Possible.calls kj29 _ _ t777 t785 t786 _ ?side1 ?side2 A49.out).mono ?_); (case side1 => exact cl_ ((Kd.R_reads' HO_13.out).2.2)); (case side2 => exact (Kd.R_reads' HO_13.out).2.1); rintro e w52 ⟨rfl, hb⟩; refine ⟨_, rfl, ?_⟩; have n0_ := a_ (Kd.R_below (rl_ HO_13.out) hb); have n1_ := a_ (bb_ BK769.out hb); have n2_ := a_ (below_step bl_ hb); clear HO_13; clear BK769; clear HB; have HO_13 := n0_; have BK769 := n1_; have HB := n2_; clear n0_ n1_ n2_; (try clear hb); (try clear hb2); (try clear hk); (try clear hi)))
         (try simp only [Act.put, List.setIfInBounds_toArray, List.set_cons_zero, List.set_cons_succ])
         go_cut [101] (fun v101 wc => ∃ (kq : Nat) (x101_49 : Bool), v101 = .bool x101_49 ∧ Aside0 (waterhourlaw04_RefillKnown.j2 kq l0 a4 a5 t777 t786 x101_49 = some r) ∧ Aside0 (kq ≤ kj29) ∧ Aside0 (Kd.R k51 51 wc w.heap.size (fun k_ => (w.heap.size ≤ k_)) (.slice Ao51 t777.length co51) t777) ∧ Aside0 (wc.heap[gb769]? = some (.cells #[.int .i64 a2_0, .int .i64 a2_1] 49 (0, 0))) ∧ Aside0 (Below w.heap.size w wc))
         case first => as_aux_lemma =>
          have H := HC50.out
          clear HC50
          by_cases c53 : t786 = 0
          ·rw [if_pos c53] at H
           have c53b0 : (t786 == 0) = true := beq_iff_eq.mpr c53
           have c53b1 : (t786 != 0) = false := bne_eq_false_iff_eq.mpr c53
           clear c53
           (first | rw [c53b0] | (simp only [i64_w, i32_w]; rw [c53b0]) | skip)
           have H' := a_ H
           clear H
           go_wp2
           go_meet
           case rel => exact ⟨_, (!t785), (by first | rfl | (simp; done) | (simp [*]; done)), H', ⟨by have := HJ8.out; have := HJ29.out; first | omega | exact Nat.le_refl _⟩, ⟨rl_ HO_13.out⟩, ⟨bk_ BK769.out⟩, ⟨bl_⟩⟩
          ·rw [if_neg c53] at H
           have c53b0 : (t786 == 0) = false := beq_eq_false_iff_ne.mpr c53
           have c53b1 : (t786 != 0) = true := bne_iff_ne.mpr c53
           (first | rw [c53b0] | (simp only [i64_w, i32_w]; rw [c53b0]) | skip)
           have H' := a_ H
           clear H
           go_wp2
           go_meet
           case rel => exact ⟨_, (true), (by first | rfl | (simp; done) | (simp [*]; done)), H', ⟨by have := HJ8.out; have := HJ29.out; first | omega | exact Nat.le_refl _⟩, ⟨rl_ HO_13.out⟩, ⟨bk_ BK769.out⟩, ⟨bl_⟩⟩
         case rest =>
          clear HC50
          try clear p2
          try clear c3
          try clear c4
          try clear c5
          try clear p7
          try clear q7
          try clear hx7
          try clear c33
          try clear c35
          try clear c35b0
          try clear c35b1
          try clear c36
          try clear c37
          try clear c38
          try clear c38b0
          try clear c40
          try clear c48
          try clear c53
          try clear c53b0
          try clear c53b1
          try clear hx783_0
          try clear p2
          try clear p7
          try clear p783
          try clear q7
          try clear q783
          obtain ⟨kq, x101_49, rfl, HA, HJ49, HO_13, BK769, HB⟩ := hcut
          cases kq with
          | zero => exact absurd HA.out (by simp [waterhourlaw04_RefillKnown.j2])
          | succ kj49 =>
           have H := HA.out
           clear HA
           simp only [waterhourlaw04_RefillKnown.j2] at H
           by_cases c54 : x101_49 = true
           ·subst c54
            have H1 : (some (t786 == 0)) = some r := by rw [if_pos rfl] at H; exact H
            clear H
            have H := H1
            clear H1
            obtain rfl := Option.some.inj H
            go_wp2
            go_ret
            exact ⟨by first | rfl | (simp [errW_none, errW_some] <;> rfl) | (simp [*, errW_none, errW_some] <;> rfl), bl_⟩
           ·replace c54 := Bool.eq_false_iff.mpr c54
            subst c54
            have H1 : ((waterhourref04_Event.f l0 a5 0).bind fun t787 => (if t787 = true then ((waterhourref04_Event.f l0 a4 (-1)).bind fun t788 => (if t788 = true then (waterhourlaw04_RefillKnown.j3 kj49 l0 a4 a5 t777 (decide (a4 ≥ a5))) else (waterhourlaw04_RefillKnown.j3 kj49 l0 a4 a5 t777 true))) else (waterhourlaw04_RefillKnown.j3 kj49 l0 a4 a5 t777 true))) = some r := by rw [if_neg (show ¬ (false = true) by decide)] at H; exact H
            clear H
            have H := H1
            clear H1
            have HC55 := a_ H
            clear H
            go_upto_region 14 with (fail)
            go_cut [118] (fun v118 wc => ∃ (kq : Nat) (x118_54 : Bool), v118 = .bool x118_54 ∧ Aside0 (waterhourlaw04_RefillKnown.j3 kq l0 a4 a5 t777 x118_54 = some r) ∧ Aside0 (kq ≤ kj49) ∧ Aside0 (Kd.R k51 51 wc w.heap.size (fun k_ => (w.heap.size ≤ k_)) (.slice Ao51 t777.length co51) t777) ∧ Aside0 (wc.heap[gb769]? = some (.cells #[.int .i64 a2_0, .int .i64 a2_1] 49 (0, 0))) ∧ Aside0 (Below w.heap.size w wc))
            case first => as_aux_lemma =>
             have H := HC55.out
             clear HC55
             replace H := Option.bind_eq_some_iff.mp H
             obtain ⟨t787, A560, H⟩ := H
             replace H : (if t787 = true then ((waterhourref04_Event.f l0 a4 (-1)).bind fun t788 => (if t788 = true then (waterhourlaw04_RefillKnown.j3 kj49 l0 a4 a5 t777 (decide (a4 ≥ a5))) else (waterhourlaw04_RefillKnown.j3 kj49 l0 a4 a5 t777 true))) else (waterhourlaw04_RefillKnown.j3 kj49 l0 a4 a5 t777 true)) = some r := H
             have A56 := a_ A560
             clear A560
             by_cases c57 : t787 = true
             ·subst c57
              have H1 : ((waterhourref04_Event.f l0 a4 (-1)).bind fun t788 => (if t788 = true then (waterhourlaw04_RefillKnown.j3 kj49 l0 a4 a5 t777 (decide (a4 ≥ a5))) else (waterhourlaw04_RefillKnown.j3 kj49 l0 a4 a5 t777 true))) = some r := by rw [if_pos rfl] at H; exact H
              clear H
              have H := H1
              clear H1
              replace H := Option.bind_eq_some_iff.mp H
              obtain ⟨t788, A580, H⟩ := H
              replace H : (if t788 = true then (waterhourlaw04_RefillKnown.j3 kj49 l0 a4 a5 t777 (decide (a4 ≥ a5))) else (waterhourlaw04_RefillKnown.j3 kj49 l0 a4 a5 t777 true)) = some r := H
              have A58 := a_ A580
              clear A580
              by_cases c59 : t788 = true
              ·subst c59
               have H1 : (waterhourlaw04_RefillKnown.j3 kj49 l0 a4 a5 t777 (decide (a4 ≥ a5))) = some r := by rw [if_pos rfl] at H; exact H
               clear H
               have H := H1
               clear H1
               have H' := a_ H
               clear H
               go_wp2_with (first | ((with_reducible refine gate_callee (f := 36) rfl ?_); refine goesL_ (some 106) rfl rfl Tryd.func36 (by kernel_rfl) rfl #[.slice A0 l0.length c0, .int .i64 a5, .int .i64 0] rfl tm_ ?_; (with_reducible refine (waterhourref04_Event.calls _ _ l0 a5 0 true _ ?side1 ?side2 A56.out).mono ?_); (case side1 => exact cl_ (Kd.C_below HR0.out HB.out)); (case side2 => exact HC0.out); rintro e w' ⟨rfl, ⟨nd, rfl⟩⟩; refine ⟨_, rfl, ?_⟩) | (go_at_call 36; (with_reducible refine (waterhourref04_Event.calls _ _ l0 a4 (-1) true _ ?side1 ?side2 A58.out).mono ?_); (case side1 => exact cl_ (Kd.C_below HR0.out bl_)); (case side2 => exact HC0.out); rintro e w' ⟨rfl, ⟨nd, rfl⟩⟩))
               go_meet
               case rel => exact ⟨_, (decide (a4 ≥ a5)), (by first | rfl | (simp; done) | (simp [*]; done)), H', ⟨by have := HJ8.out; have := HJ29.out; have := HJ49.out; first | omega | exact Nat.le_refl _⟩, ⟨rl_ HO_13.out⟩, ⟨bk_ BK769.out⟩, ⟨bl_⟩⟩
              ·replace c59 := Bool.eq_false_iff.mpr c59
               subst c59
               have H1 : (waterhourlaw04_RefillKnown.j3 kj49 l0 a4 a5 t777 true) = some r := by rw [if_neg (show ¬ (false = true) by decide)] at H; exact H
               clear H
               have H := H1
               clear H1
               have H' := a_ H
               clear H
               go_wp2_with (first | ((with_reducible refine gate_callee (f := 36) rfl ?_); refine goesL_ (some 106) rfl rfl Tryd.func36 (by kernel_rfl) rfl #[.slice A0 l0.length c0, .int .i64 a5, .int .i64 0] rfl tm_ ?_; (with_reducible refine (waterhourref04_Event.calls _ _ l0 a5 0 true _ ?side1 ?side2 A56.out).mono ?_); (case side1 => exact cl_ (Kd.C_below HR0.out HB.out)); (case side2 => exact HC0.out); rintro e w' ⟨rfl, ⟨nd, rfl⟩⟩; refine ⟨_, rfl, ?_⟩) | (go_at_call 36; (with_reducible refine (waterhourref04_Event.calls _ _ l0 a4 (-1) false _ ?side1 ?side2 A58.out).mono ?_); (case side1 => exact cl_ (Kd.C_below HR0.out bl_)); (case side2 => exact HC0.out); rintro e w' ⟨rfl, ⟨nd, rfl⟩⟩))
               go_meet
               case rel => exact ⟨_, (true), (by first | rfl | (simp; done) | (simp [*]; done)), H', ⟨by have := HJ8.out; have := HJ29.out; have := HJ49.out; first | omega | exact Nat.le_refl _⟩, ⟨rl_ HO_13.out⟩, ⟨bk_ BK769.out⟩, ⟨bl_⟩⟩
             ·replace c57 := Bool.eq_false_iff.mpr c57
              subst c57
              have H1 : (waterhourlaw04_RefillKnown.j3 kj49 l0 a4 a5 t777 true) = some r := by rw [if_neg (show ¬ (false = true) by decide)] at H; exact H
              clear H
              have H := H1
              clear H1
              have H' := a_ H
              clear H
              go_wp2_with (first | ((with_reducible refine gate_callee (f := 36) rfl ?_); refine goesL_ (some 106) rfl rfl Tryd.func36 (by kernel_rfl) rfl #[.slice A0 l0.length c0, .int .i64 a5, .int .i64 0] rfl tm_ ?_; (with_reducible refine (waterhourref04_Event.calls _ _ l0 a5 0 false _ ?side1 ?side2 A56.out).mono ?_); (case side1 => exact cl_ (Kd.C_below HR0.out HB.out)); (case side2 => exact HC0.out); rintro e w' ⟨rfl, ⟨nd, rfl⟩⟩; refine ⟨_, rfl, ?_⟩))
              go_meet
              case rel => exact ⟨_, (true), (by first | rfl | (simp; done) | (simp [*]; done)), H', ⟨by have := HJ8.out; have := HJ29.out; have := HJ49.out; first | omega | exact Nat.le_refl _⟩, ⟨rl_ HO_13.out⟩, ⟨bk_ BK769.out⟩, ⟨bl_⟩⟩
            case rest =>
             clear HC55
             try clear p2
             try clear c3
             try clear c4
             try clear c5
             try clear p7
             try clear q7
             try clear hx7
             try clear c33
             try clear c35
             try clear c35b0
             try clear c35b1
             try clear c36
             try clear c37
             try clear c38
             try clear c38b0
             try clear c40
             try clear c48
             try clear c53
             try clear c53b0
             try clear c53b1
             try clear c54
             try clear c57
             try clear c59
             try clear hx783_0
             try clear p2
             try clear p7
             try clear p783
             try clear q7
             try clear q783
             obtain ⟨kq, x118_54, rfl, HA, HJ54, HO_13, BK769, HB⟩ := hcut
             cases kq with
             | zero => exact absurd HA.out (by simp [waterhourlaw04_RefillKnown.j3])
             | succ kj54 =>
              have H := HA.out
              clear HA
              simp only [waterhourlaw04_RefillKnown.j3] at H
              by_cases c60 : x118_54 = true
              ·subst c60
               have H1 : (some true) = some r := by rw [if_pos rfl] at H; exact H
               clear H
               have H := H1
               clear H1
               obtain rfl := Option.some.inj H
               go_wp2
               go_ret
               exact ⟨by first | rfl | (simp [errW_none, errW_some] <;> rfl) | (simp [*, errW_none, errW_some] <;> rfl), bl_⟩
              ·replace c60 := Bool.eq_false_iff.mpr c60
               subst c60
               have H1 : ((refill_Time.f kj54 l0 a5).bind fun bt789 => ((refill_Time.f kj54 t777 a5).bind fun bt793 => ((refill_Between.f kj54 l0 a4 a5).bind fun bt797 => ((refill_Between.f kj54 t777 a4 a5).bind fun bt801 => (if bt789.2.2 = 0 then (if bt793.2.2 = 0 then (if bt797.2.2 = 0 then (if bt801.2.2 = 0 then (if bt793.1 ≥ bt789.1 then (if bt793.2.1 ≤ bt789.2.1 then (if bt801.1 ≥ bt797.1 then (some (decide (bt801.2.1 ≤ bt797.2.1))) else (some false)) else (some false)) else (some false)) else (some false)) else (some false)) else (some false)) else (some false)))))) = some r := by rw [if_neg (show ¬ (false = true) by decide)] at H; exact H
               clear H
               have H := H1
               clear H1
               replace H := Option.bind_eq_some_iff.mp H
               obtain ⟨⟨t789, t790, t791⟩, A610, H⟩ := H
               replace H : ((refill_Time.f kj54 t777 a5).bind fun bt793 => ((refill_Between.f kj54 l0 a4 a5).bind fun bt797 => ((refill_Between.f kj54 t777 a4 a5).bind fun bt801 => (if t791 = 0 then (if bt793.2.2 = 0 then (if bt797.2.2 = 0 then (if bt801.2.2 = 0 then (if bt793.1 ≥ t789 then (if bt793.2.1 ≤ t790 then (if bt801.1 ≥ bt797.1 then (some (decide (bt801.2.1 ≤ bt797.2.1))) else (some false)) else (some false)) else (some false)) else (some false)) else (some false)) else (some false)) else (some false))))) = some r := H
               have A61 := a_ A610
               clear A610
               replace H := Option.bind_eq_some_iff.mp H
               obtain ⟨⟨t793, t794, t795⟩, A620, H⟩ := H
               replace H : ((refill_Between.f kj54 l0 a4 a5).bind fun bt797 => ((refill_Between.f kj54 t777 a4 a5).bind fun bt801 => (if t791 = 0 then (if t795 = 0 then (if bt797.2.2 = 0 then (if bt801.2.2 = 0 then (if t793 ≥ t789 then (if t794 ≤ t790 then (if bt801.1 ≥ bt797.1 then (some (decide (bt801.2.1 ≤ bt797.2.1))) else (some false)) else (some false)) else (some false)) else (some false)) else (some false)) else (some false)) else (some false)))) = some r := H
               have A62 := a_ A620
               clear A620
               replace H := Option.bind_eq_some_iff.mp H
               obtain ⟨⟨t797, t798, t799⟩, A630, H⟩ := H
               replace H : ((refill_Between.f kj54 t777 a4 a5).bind fun bt801 => (if t791 = 0 then (if t795 = 0 then (if t799 = 0 then (if bt801.2.2 = 0 then (if t793 ≥ t789 then (if t794 ≤ t790 then (if bt801.1 ≥ t797 then (some (decide (bt801.2.1 ≤ t798))) else (some false)) else (some false)) else (some false)) else (some false)) else (some false)) else (some false)) else (some false))) = some r := H
               have A63 := a_ A630
               clear A630
               replace H := Option.bind_eq_some_iff.mp H
               obtain ⟨⟨t801, t802, t803⟩, A640, H⟩ := H
               replace H : (if t791 = 0 then (if t795 = 0 then (if t799 = 0 then (if t803 = 0 then (if t793 ≥ t789 then (if t794 ≤ t790 then (if t801 ≥ t797 then (some (decide (t802 ≤ t798))) else (some false)) else (some false)) else (some false)) else (some false)) else (some false)) else (some false)) else (some false)) = some r := H
               have A64 := a_ A640
               clear A640
               by_cases c65 : t791 = 0
               ·rw [if_pos c65] at H
                have c65b0 : (t791 == 0) = true := beq_iff_eq.mpr c65
                have c65b1 : (t791 != 0) = false := bne_eq_false_iff_eq.mpr c65
                clear c65
                by_cases c66 : t795 = 0
                ·rw [if_pos c66] at H
                 have c66b0 : (t795 == 0) = true := beq_iff_eq.mpr c66
                 have c66b1 : (t795 != 0) = false := bne_eq_false_iff_eq.mpr c66
                 clear c66
                 by_cases c67 : t799 = 0
                 ·rw [if_pos c67] at H
                  have c67b0 : (t799 == 0) = true := beq_iff_eq.mpr c67
                  have c67b1 : (t799 != 0) = false := bne_eq_false_iff_eq.mpr c67
                  clear c67
                  by_cases c68 : t803 = 0
                  ·rw [if_pos c68] at H
                   have c68b0 : (t803 == 0) = true := beq_iff_eq.mpr c68
                   have c68b1 : (t803 != 0) = false := bne_eq_false_iff_eq.mpr c68
                   clear c68
                   by_cases c69 : t793 ≥ t789
                   ·rw [if_pos c69] at H
                    have c69b0 : decide (t789 ≤ t793) = true := decide_eq_true c69
                    clear c69
                    by_cases c70 : t794 ≤ t790
                    ·rw [if_pos c70] at H
                     have c70b0 : decide (t794 ≤ t790) = true := decide_eq_true c70
                     clear c70
                     by_cases c71 : t801 ≥ t797
                     ·rw [if_pos c71] at H
                      have c71b0 : decide (t797 ≤ t801) = true := decide_eq_true c71
                      clear c71
                      obtain rfl := Option.some.inj H
                      go_wp2_with (first | ((with_reducible refine gate_callee (f := 43) rfl ?_); refine goesL_ (some 122) rfl rfl Tryd.func43 (by kernel_rfl) rfl #[.slice A0 l0.length c0, .int .i64 a5] rfl tm_ ?_; (with_reducible refine (refill_Time.calls kj54 _ _ l0 a5 t789 t790 t791 _ ?side1 ?side2 A61.out).mono ?_); (case side1 => exact cl_ (Kd.C_below HR0.out HB.out)); (case side2 => exact HC0.out); rintro e w72 ⟨rfl, hb⟩; refine ⟨_, rfl, ?_⟩; have n0_ := a_ (Kd.R_below (rl_ HO_13.out) hb); have n1_ := a_ (bb_ BK769.out hb); have n2_ := a_ (below_step bl_ hb); clear HO_13; clear BK769; clear HB; have HO_13 := n0_; have BK769 := n1_; have HB := n2_; clear n0_ n1_ n2_; (try clear hb); (try clear hb2); (try clear hk); (try clear hi)) | ((with_reducible refine gate_dst (N := 18) rfl ?_); (try (refine gate_guard (by rfl) ?_; dsimp only)); refine box_event ?hg (N := 18) ?hd (cs := #[.int .i64 0, .int .i64 0]) (t := 49) ?hr ?_; (case hd => rfl); (case hg => rfl); (case hr => first | (go_simp; done) | (go_simp; rfl)); intro gb792 hg w73 hbox hb; have n0_ := a_ (Kd.R_below (rl_ HO_13.out) hb); have n1_ := a_ (bb_ BK769.out hb); have n2_ := a_ (below_step bl_ hb); have n3_ := a_ (hbox); have n4_ := a_ ((bz_ (w := w) hg)); have n5_ := a_ ((bz_ (w := w) hg)); have n6_ := a_ ((nl_ BK769.out hg)); have n7_ := a_ ((ng_ BK769.out hg)); clear HO_13; clear BK769; clear HB; have HO_13 := n0_; have BK769 := n1_; have HB := n2_; have BK792 := n3_; have GW792 := n4_; have GE792 := n5_; have NB769_792 := n6_; have NB792_769 := n7_; clear n0_ n1_ n2_ n3_ n4_ n5_ n6_ n7_; clear hb hbox hg; have hnb74 := NB792_769.out; have hnc74 := NB769_792.out; have hcz75_0 : w73.cell? ⟨gb792, 0, none⟩ = some (.int .i64 0) := (blk_cell BK792.out 0).trans rfl; have hcz75_1 : w73.cell? ⟨gb792, 1, none⟩ = some (.int .i64 0) := (blk_cell BK792.out 1).trans rfl; have hfz75_0 := blk_frozen BK792.out 0; have hfz75_1 := blk_frozen BK792.out 1) | ((with_reducible refine gate_callee (f := 43) rfl ?_); refine goesL_ (some 128) rfl rfl Tryd.func43 (by kernel_rfl) rfl #[.slice Ao51 t777.length co51, .int .i64 a5] rfl tm_ ?_; (with_reducible refine (refill_Time.calls kj54 _ _ t777 a5 t793 t794 t795 _ ?side1 ?side2 A62.out).mono ?_); (case side1 => refine (Kd.R_reads' (e := 51) (base := w.heap.size) (ok := fun k_ => (w.heap.size ≤ k_)) (n := t777.length) (c := co51) ?_).2.2; exact (rl_ (Kd.R_mono (Kd.R_far (p := ⟨gb792, 1, none⟩) (Kd.R_far (p := ⟨gb792, 0, none⟩) (Kd.R_types HO_13.out BK792.out (by decide)) (fun _ hk => hk.2) (.int .i64 t789)) (fun _ hk => hk.2) (.int .i64 t790)) (fun _ h_ => h_.1)))); (case side2 => exact (Kd.R_reads' HO_13.out).2.1); rintro e w76 ⟨rfl, hb⟩; refine ⟨_, rfl, ?_⟩; have n0_ := a_ (Kd.R_below (rl_ (Kd.R_mono (Kd.R_far (p := ⟨gb792, 1, none⟩) (Kd.R_far (p := ⟨gb792, 0, none⟩) (Kd.R_types HO_13.out BK792.out (by decide)) (fun _ hk => hk.2) (.int .i64 t789)) (fun _ hk => hk.2) (.int .i64 t790)) (fun _ h_ => h_.1))) hb); have n1_ := a_ (blk_below (g := gb769) (o := .cells #[.int .i64 a2_0, .int .i64 a2_1] 49 (0, 0)) (by (with_reducible repeat (first | refine blk_drewN ?_ _ | refine blk_drew ?_ | refine blk_alloc ?_ _)); refine blk_far ?_ NB769_792.out _; (with_reducible repeat (first | refine blk_drewN ?_ _ | refine blk_drew ?_ | refine blk_alloc ?_ _)); refine blk_far ?_ NB769_792.out _; (with_reducible repeat (first | refine blk_drewN ?_ _ | refine blk_drew ?_ | refine blk_alloc ?_ _)); exact BK769.out) hb); have n2_ := a_ (blk_below (g := gb792) (o := .cells #[.int .i64 t789, .int .i64 t790] 49 (0, 0)) (by (with_reducible repeat (first | refine blk_drewN ?_ _ | refine blk_drew ?_ | refine blk_alloc ?_ _)); refine blk_put (cs := #[.int .i64 t789, .int .i64 0]) ?_ 1 _ rfl; (with_reducible repeat (first | refine blk_drewN ?_ _ | refine blk_drew ?_ | refine blk_alloc ?_ _)); refine blk_put (cs := #[.int .i64 0, .int .i64 0]) ?_ 0 _ rfl; (with_reducible repeat (first | refine blk_drewN ?_ _ | refine blk_drew ?_ | refine blk_alloc ?_ _)); exact BK792.out) hb); have n3_ := a_ (below_step bl_ hb); clear HO_13; clear BK769; clear BK792; clear HB; have HO_13 := n0_; have BK769 := n1_; have BK792 := n2_; have HB := n3_; clear n0_ n1_ n2_ n3_; (try clear hb); (try clear hb2); (try clear hk); (try clear hi)) | ((with_reducible refine gate_dst (N := 19) rfl ?_); (try (refine gate_guard (by rfl) ?_; dsimp only)); refine box_event ?hg (N := 19) ?hd (cs := #[.int .i64 0, .int .i64 0]) (t := 49) ?hr ?_; (case hd => rfl); (case hg => rfl); (case hr => first | (go_simp; done) | (go_simp; rfl)); intro gb796 hg w77 hbox hb; have n0_ := a_ (Kd.R_below (rl_ HO_13.out) hb); have n1_ := a_ (bb_ BK769.out hb); have n2_ := a_ (bb_ BK792.out hb); have n3_ := a_ (below_step bl_ hb); have n4_ := a_ (hbox); have n5_ := a_ ((bz_ (w := w) hg)); have n6_ := a_ ((bz_ (w := w) hg)); have n7_ := a_ ((nl_ BK769.out hg)); have n8_ := a_ ((ng_ BK769.out hg)); have n9_ := a_ ((nl_ BK792.out hg)); have n10_ := a_ ((ng_ BK792.out hg)); clear HO_13; clear BK769; clear BK792; clear HB; have HO_13 := n0_; have BK769 := n1_; have BK792 := n2_; have HB := n3_; have BK796 := n4_; have GW796 := n5_; have GE796 := n6_; have NB769_796 := n7_; have NB796_769 := n8_; have NB792_796 := n9_; have NB796_792 := n10_; clear n0_ n1_ n2_ n3_ n4_ n5_ n6_ n7_ n8_ n9_ n10_; clear hb hbox hg; have hnb78 := NB796_769.out; have hnc78 := NB769_796.out; have hnb79 := NB796_792.out; have hnc79 := NB792_796.out; have hcz80_0 : w77.cell? ⟨gb796, 0, none⟩ = some (.int .i64 0) := (blk_cell BK796.out 0).trans rfl; have hcz80_1 : w77.cell? ⟨gb796, 1, none⟩ = some (.int .i64 0) := (blk_cell BK796.out 1).trans rfl; have hfz80_0 := blk_frozen BK796.out 0; have hfz80_1 := blk_frozen BK796.out 1) | ((with_reducible refine gate_callee (f := 44) rfl ?_); refine goesL_ (some 135) rfl rfl Tryd.func44 (by kernel_rfl) rfl #[.slice A0 l0.length c0, .int .i64 a4, .int .i64 a5] rfl tm_ ?_; (with_reducible refine (refill_Between.calls kj54 _ _ l0 a4 a5 t797 t798 t799 _ ?side1 ?side2 A63.out).mono ?_); (case side1 => exact Kd.C_below HR0.out bl_); (case side2 => exact HC0.out); rintro e w81 ⟨rfl, hb⟩; refine ⟨_, rfl, ?_⟩; have n0_ := a_ (Kd.R_below (rl_ (Kd.R_mono (Kd.R_far (p := ⟨gb796, 1, none⟩) (Kd.R_far (p := ⟨gb796, 0, none⟩) (Kd.R_types HO_13.out BK796.out (by decide)) (fun _ hk => hk.2) (.int .i64 t793)) (fun _ hk => hk.2) (.int .i64 t794)) (fun _ h_ => h_.1))) hb); have n1_ := a_ (blk_below (g := gb769) (o := .cells #[.int .i64 a2_0, .int .i64 a2_1] 49 (0, 0)) (by (with_reducible repeat (first | refine blk_drewN ?_ _ | refine blk_drew ?_ | refine blk_alloc ?_ _)); refine blk_far ?_ NB769_796.out _; (with_reducible repeat (first | refine blk_drewN ?_ _ | refine blk_drew ?_ | refine blk_alloc ?_ _)); refine blk_far ?_ NB769_796.out _; (with_reducible repeat (first | refine blk_drewN ?_ _ | refine blk_drew ?_ | refine blk_alloc ?_ _)); exact BK769.out) hb); have n2_ := a_ (blk_below (g := gb792) (o := .cells #[.int .i64 t789, .int .i64 t790] 49 (0, 0)) (by (with_reducible repeat (first | refine blk_drewN ?_ _ | refine blk_drew ?_ | refine blk_alloc ?_ _)); refine blk_far ?_ NB792_796.out _; (with_reducible repeat (first | refine blk_drewN ?_ _ | refine blk_drew ?_ | refine blk_alloc ?_ _)); refine blk_far ?_ NB792_796.out _; (with_reducible repeat (first | refine blk_drewN ?_ _ | refine blk_drew ?_ | refine blk_alloc ?_ _)); exact BK792.out) hb); have n3_ := a_ (blk_below (g := gb796) (o := .cells #[.int .i64 t793, .int .i64 t794] 49 (0, 0)) (by (with_reducible repeat (first | refine blk_drewN ?_ _ | refine blk_drew ?_ | refine blk_alloc ?_ _)); refine blk_put (cs := #[.int .i64 t793, .int .i64 0]) ?_ 1 _ rfl; (with_reducible repeat (first | refine blk_drewN ?_ _ | refine blk_drew ?_ | refine blk_alloc ?_ _)); refine blk_put (cs := #[.int .i64 0, .int .i64 0]) ?_ 0 _ rfl; (with_reducible repeat (first | refine blk_drewN ?_ _ | refine blk_drew ?_ | refine blk_alloc ?_ _)); exact BK796.out) hb); have n4_ := a_ (below_step bl_ hb); clear HO_13; clear BK769; clear BK792; clear BK796; clear HB; have HO_13 := n0_; have BK769 := n1_; have BK792 := n2_; have BK796 := n3_; have HB := n4_; clear n0_ n1_ n2_ n3_ n4_; (try clear hb); (try clear hb2); (try clear hk); (try clear hi)) | ((with_reducible refine gate_dst (N := 21) rfl ?_); (try (refine gate_guard (by rfl) ?_; dsimp only)); refine box_event ?hg (N := 21) ?hd (cs := #[.int .i64 0, .int .i64 0]) (t := 49) ?hr ?_; (case hd => rfl); (case hg => rfl); (case hr => first | (go_simp; done) | (go_simp; rfl)); intro gb800 hg w82 hbox hb; have n0_ := a_ (Kd.R_below (rl_ HO_13.out) hb); have n1_ := a_ (bb_ BK769.out hb); have n2_ := a_ (bb_ BK792.out hb); have n3_ := a_ (bb_ BK796.out hb); have n4_ := a_ (below_step bl_ hb); have n5_ := a_ (hbox); have n6_ := a_ ((bz_ (w := w) hg)); have n7_ := a_ ((bz_ (w := w) hg)); have n8_ := a_ ((nl_ BK769.out hg)); have n9_ := a_ ((ng_ BK769.out hg)); have n10_ := a_ ((nl_ BK792.out hg)); have n11_ := a_ ((ng_ BK792.out hg)); have n12_ := a_ ((nl_ BK796.out hg)); have n13_ := a_ ((ng_ BK796.out hg)); clear HO_13; clear BK769; clear BK792; clear BK796; clear HB; have HO_13 := n0_; have BK769 := n1_; have BK792 := n2_; have BK796 := n3_; have HB := n4_; have BK800 := n5_; have GW800 := n6_; have GE800 := n7_; have NB769_800 := n8_; have NB800_769 := n9_; have NB792_800 := n10_; have NB800_792 := n11_; have NB796_800 := n12_; have NB800_796 := n13_; clear n0_ n1_ n2_ n3_ n4_ n5_ n6_ n7_ n8_ n9_ n10_ n11_ n12_ n13_; clear hb hbox hg; have hnb83 := NB800_769.out; have hnc83 := NB769_800.out; have hnb84 := NB800_792.out; have hnc84 := NB792_800.out; have hnb85 := NB800_796.out; have hnc85 := NB796_800.out; have hcz86_0 : w82.cell? ⟨gb800, 0, none⟩ = some (.int .i64 0) := (blk_cell BK800.out 0).trans rfl; have hcz86_1 : w82.cell? ⟨gb800, 1, none⟩ = some (.int .i64 0) := (blk_cell BK800.out 1).trans rfl; have hfz86_0 := blk_frozen BK800.out 0; have hfz86_1 := blk_frozen BK800.out 1) | ((with_reducible refine gate_callee (f := 44) rfl ?_); refine goesL_ (some 142) rfl rfl Tryd.func44 (by kernel_rfl) rfl #[.slice Ao51 t777.length co51, .int .i64 a4, .int .i64 a5] rfl tm_ ?_; (with_reducible refine (refill_Between.calls kj54 _ _ t777 a4 a5 t801 t802 t803 _ ?side1 ?side2 A64.out).mono ?_); (case side1 => refine (Kd.R_reads' (e := 51) (base := w.heap.size) (ok := fun k_ => (w.heap.size ≤ k_)) (n := t777.length) (c := co51) ?_).2.2; exact (rl_ (Kd.R_mono (Kd.R_far (p := ⟨gb800, 1, none⟩) (Kd.R_far (p := ⟨gb800, 0, none⟩) (Kd.R_types HO_13.out BK800.out (by decide)) (fun _ hk => hk.2) (.int .i64 t797)) (fun _ hk => hk.2) (.int .i64 t798)) (fun _ h_ => h_.1)))); (case side2 => exact (Kd.R_reads' HO_13.out).2.1); rintro e w87 ⟨rfl, hb⟩; refine ⟨_, rfl, ?_⟩; have n0_ := a_ (Kd.R_below (rl_ (Kd.R_mono (Kd.R_far (p := ⟨gb800, 1, none⟩) (Kd.R_far (p := ⟨gb800, 0, none⟩) (Kd.R_types HO_13.out BK800.out (by decide)) (fun _ hk => hk.2) (.int .i64 t797)) (fun _ hk => hk.2) (.int .i64 t798)) (fun _ h_ => h_.1))) hb); have n1_ := a_ (blk_below (g := gb769) (o := .cells #[.int .i64 a2_0, .int .i64 a2_1] 49 (0, 0)) (by (with_reducible repeat (first | refine blk_drewN ?_ _ | refine blk_drew ?_ | refine blk_alloc ?_ _)); refine blk_far ?_ NB769_800.out _; (with_reducible repeat (first | refine blk_drewN ?_ _ | refine blk_drew ?_ | refine blk_alloc ?_ _)); refine blk_far ?_ NB769_800.out _; (with_reducible repeat (first | refine blk_drewN ?_ _ | refine blk_drew ?_ | refine blk_alloc ?_ _)); exact BK769.out) hb); have n2_ := a_ (blk_below (g := gb792) (o := .cells #[.int .i64 t789, .int .i64 t790] 49 (0, 0)) (by (with_reducible repeat (first | refine blk_drewN ?_ _ | refine blk_drew ?_ | refine blk_alloc ?_ _)); refine blk_far ?_ NB792_800.out _; (with_reducible repeat (first | refine blk_drewN ?_ _ | refine blk_drew ?_ | refine blk_alloc ?_ _)); refine blk_far ?_ NB792_800.out _; (with_reducible repeat (first | refine blk_drewN ?_ _ | refine blk_drew ?_ | refine blk_alloc ?_ _)); exact BK792.out) hb); have n3_ := a_ (blk_below (g := gb796) (o := .cells #[.int .i64 t793, .int .i64 t794] 49 (0, 0)) (by (with_reducible repeat (first | refine blk_drewN ?_ _ | refine blk_drew ?_ | refine blk_alloc ?_ _)); refine blk_far ?_ NB796_800.out _; (with_reducible repeat (first | refine blk_drewN ?_ _ | refine blk_drew ?_ | refine blk_alloc ?_ _)); refine blk_far ?_ NB796_800.out _; (with_reducible repeat (first | refine blk_drewN ?_ _ | refine blk_drew ?_ | refine blk_alloc ?_ _)); exact BK796.out) hb); have n4_ := a_ (blk_below (g := gb800) (o := .cells #[.int .i64 t797, .int .i64 t798] 49 (0, 0)) (by (with_reducible repeat (first | refine blk_drewN ?_ _ | refine blk_drew ?_ | refine blk_alloc ?_ _)); refine blk_put (cs := #[.int .i64 t797, .int .i64 0]) ?_ 1 _ rfl; (with_reducible repeat (first | refine blk_drewN ?_ _ | refine blk_drew ?_ | refine blk_alloc ?_ _)); refine blk_put (cs := #[.int .i64 0, .int .i64 0]) ?_ 0 _ rfl; (with_reducible repeat (first | refine blk_drewN ?_ _ | refine blk_drew ?_ | refine blk_alloc ?_ _)); exact BK800.out) hb); have n5_ := a_ (below_step bl_ hb); clear HO_13; clear BK769; clear BK792; clear BK796; clear BK800; clear HB; have HO_13 := n0_; have BK769 := n1_; have BK792 := n2_; have BK796 := n3_; have BK800 := n4_; have HB := n5_; clear n0_ n1_ n2_ n3_ n4_ n5_; (try clear hb); (try clear hb2); (try clear hk); (try clear hi)) | ((with_reducible refine gate_dst (N := 23) rfl ?_); (try (refine gate_guard (by rfl) ?_; dsimp only)); refine box_event ?hg (N := 23) ?hd (cs := #[.int .i64 0, .int .i64 0]) (t := 49) ?hr ?_; (case hd => rfl); (case hg => rfl); (case hr => first | (go_simp; done) | (go_simp; rfl)); intro gb804 hg w88 hbox hb; have n0_ := a_ (Kd.R_below (rl_ HO_13.out) hb); have n1_ := a_ (bb_ BK769.out hb); have n2_ := a_ (bb_ BK792.out hb); have n3_ := a_ (bb_ BK796.out hb); have n4_ := a_ (bb_ BK800.out hb); have n5_ := a_ (below_step bl_ hb); have n6_ := a_ (hbox); have n7_ := a_ ((bz_ (w := w) hg)); have n8_ := a_ ((bz_ (w := w) hg)); have n9_ := a_ ((nl_ BK769.out hg)); have n10_ := a_ ((ng_ BK769.out hg)); have n11_ := a_ ((nl_ BK792.out hg)); have n12_ := a_ ((ng_ BK792.out hg)); have n13_ := a_ ((nl_ BK796.out hg)); have n14_ := a_ ((ng_ BK796.out hg)); have n15_ := a_ ((nl_ BK800.out hg)); have n16_ := a_ ((ng_ BK800.out hg)); clear HO_13; clear BK769; clear BK792; clear BK796; clear BK800; clear HB; have HO_13 := n0_; have BK769 := n1_; have BK792 := n2_; have BK796 := n3_; have BK800 := n4_; have HB := n5_; have BK804 := n6_; have GW804 := n7_; have GE804 := n8_; have NB769_804 := n9_; have NB804_769 := n10_; have NB792_804 := n11_; have NB804_792 := n12_; have NB796_804 := n13_; have NB804_796 := n14_; have NB800_804 := n15_; have NB804_800 := n16_; clear n0_ n1_ n2_ n3_ n4_ n5_ n6_ n7_ n8_ n9_ n10_ n11_ n12_ n13_ n14_ n15_ n16_; clear hb hbox hg; have hnb89 := NB804_769.out; have hnc89 := NB769_804.out; have hnb90 := NB804_792.out; have hnc90 := NB792_804.out; have hnb91 := NB804_796.out; have hnc91 := NB796_804.out; have hnb92 := NB804_800.out; have hnc92 := NB800_804.out; have hcz93_0 : w88.cell? ⟨gb804, 0, none⟩ = some (.int .i64 0) := (blk_cell BK804.out 0).trans rfl; have hcz93_1 : w88.cell? ⟨gb804, 1, none⟩ = some (.int .i64 0) := (blk_cell BK804.out 1).trans rfl; have hfz93_0 := blk_frozen BK804.out 0; have hfz93_1 := blk_frozen BK804.out 1; have hcz94_0 : w88.cell? ⟨gb796, 0, none⟩ = some (.int .i64 t793) := (blk_cell BK796.out 0).trans rfl; have hcz94_1 : w88.cell? ⟨gb796, 1, none⟩ = some (.int .i64 t794) := (blk_cell BK796.out 1).trans rfl; have hfz94_0 := blk_frozen BK796.out 0; have hfz94_1 := blk_frozen BK796.out 1; have hcz95_0 : w88.cell? ⟨gb792, 0, none⟩ = some (.int .i64 t789) := (blk_cell BK792.out 0).trans rfl; have hcz95_1 : w88.cell? ⟨gb792, 1, none⟩ = some (.int .i64 t790) := (blk_cell BK792.out 1).trans rfl; have hfz95_0 := blk_frozen BK792.out 0; have hfz95_1 := blk_frozen BK792.out 1; have hcz96_0 : w88.cell? ⟨gb800, 0, none⟩ = some (.int .i64 t797) := (blk_cell BK800.out 0).trans rfl; have hcz96_1 : w88.cell? ⟨gb800, 1, none⟩ = some (.int .i64 t798) := (blk_cell BK800.out 1).trans rfl; have hfz96_0 := blk_frozen BK800.out 0; have hfz96_1 := blk_frozen BK800.out 1))
                      go_ret
                      exact ⟨by first | rfl | (simp [errW_none, errW_some] <;> rfl) | (simp [*, errW_none, errW_some] <;> rfl), bl_⟩
                     ·rw [if_neg c71] at H
                      have c71b0 : decide (t797 ≤ t801) = false := decide_eq_false c71
                      clear c71
                      exact absurd (H.trans (congrArg some hrt.out)) (by simp)
                    ·rw [if_neg c70] at H
                     have c70b0 : decide (t794 ≤ t790) = false := decide_eq_false c70
                     clear c70
                     exact absurd (H.trans (congrArg some hrt.out)) (by simp)
                   ·rw [if_neg c69] at H
                    have c69b0 : decide (t789 ≤ t793) = false := decide_eq_false c69
                    clear c69
                    exact absurd (H.trans (congrArg some hrt.out)) (by simp)
                  ·rw [if_neg c68] at H
                   have c68b0 : (t803 == 0) = false := beq_eq_false_iff_ne.mpr c68
                   have c68b1 : (t803 != 0) = true := bne_iff_ne.mpr c68
                   exact absurd (H.trans (congrArg some hrt.out)) (by simp)
                 ·rw [if_neg c67] at H
                  have c67b0 : (t799 == 0) = false := beq_eq_false_iff_ne.mpr c67
                  have c67b1 : (t799 != 0) = true := bne_iff_ne.mpr c67
                  exact absurd (H.trans (congrArg some hrt.out)) (by simp)
                ·rw [if_neg c66] at H
                 have c66b0 : (t795 == 0) = false := beq_eq_false_iff_ne.mpr c66
                 have c66b1 : (t795 != 0) = true := bne_iff_ne.mpr c66
                 exact absurd (H.trans (congrArg some hrt.out)) (by simp)
               ·rw [if_neg c65] at H
                have c65b0 : (t791 == 0) = false := beq_eq_false_iff_ne.mpr c65
                have c65b1 : (t791 != 0) = true := bne_iff_ne.mpr c65
                exact absurd (H.trans (congrArg some hrt.out)) (by simp)
     ·rw [if_neg c28] at H
      have c28b0 : (t780 == 0) = false := beq_eq_false_iff_ne.mpr c28
      have c28b1 : (t780 != 0) = true := bne_iff_ne.mpr c28
      by_cases c97 : (t777.length : Int) = 0
      ·rw [if_pos c97] at H
       have c97b0 : ((t777.length : Int) == 0) = true := beq_iff_eq.mpr c97
       have c97b1 : ((t777.length : Int) != 0) = false := bne_eq_false_iff_eq.mpr c97
       clear c97
       by_cases c98 : t780 = 1
       ·rw [if_pos c98] at H
        have c98b0 : (t780 == 1) = true := beq_iff_eq.mpr c98
        have c98b1 : (t780 != 1) = false := bne_eq_false_iff_eq.mpr c98
        clear c98
        obtain rfl := Option.some.inj H
        have hcz99_0 : wc.cell? ⟨gb769, 0, none⟩ = some (.int .i64 a2_0) := (blk_cell BK769.out 0).trans rfl
        have hcz99_1 : wc.cell? ⟨gb769, 1, none⟩ = some (.int .i64 a2_1) := (blk_cell BK769.out 1).trans rfl
        have hfz99_0 := blk_frozen BK769.out 0
        have hfz99_1 := blk_frozen BK769.out 1
        go_wp2_with (first | ((with_reducible refine gate_callee (f := 45) rfl ?_); refine goesL_ (some 47) rfl rfl Tryd.func45 (by kernel_rfl) rfl #[.slice A0 l0.length c0, .int .i64 a1, .agg #[.int .i64 a2_0, .int .i64 a2_1]] rfl tm_ ?_; (with_reducible refine (refill_Known.calls _ _ l0 a1 a2_0 a2_1 t777 t780 _ ?side1 ?side2 A27.out).mono ?_); (case side1 => exact cl_ (Kd.C_below HR0.out HB.out)); (case side2 => exact HC0.out); rintro e w100 ⟨v778, rfl, ho0, hb⟩; refine ⟨_, rfl, ?_⟩; have n0_ := a_ (Kd.V_elder' (vl_ HO_3.out) (Kd.R_base ho0) hb); have n1_ := a_ (Kd.R_lower (Kd.R_newM (M := fun k_ => (w.heap.size ≤ k_)) ho0 (below_size bl_) (fun k_ h_ => h_)) (below_size bl_)); have n2_ := a_ (bb_ BK769.out hb); have n3_ := a_ (below_step bl_ hb); clear HO_3; clear BK769; clear HB; have HO_3 := n0_; have HO779 := n1_; have BK769 := n2_; have HB := n3_; clear n0_ n1_ n2_ n3_; (try clear hb); (try clear hb2); (try clear hk); (try clear hi); (try clear ho0); obtain ⟨Ao101, co101, eo101⟩ := Kd.R_slice HO779.out; subst eo101))
        go_ret
        exact ⟨by first | rfl | (simp [errW_none, errW_some] <;> rfl) | (simp [*, errW_none, errW_some] <;> rfl), bl_⟩
       ·rw [if_neg c98] at H
        have c98b0 : (t780 == 1) = false := beq_eq_false_iff_ne.mpr c98
        have c98b1 : (t780 != 1) = true := bne_iff_ne.mpr c98
        obtain rfl := Option.some.inj H
        have hcz102_0 : wc.cell? ⟨gb769, 0, none⟩ = some (.int .i64 a2_0) := (blk_cell BK769.out 0).trans rfl
        have hcz102_1 : wc.cell? ⟨gb769, 1, none⟩ = some (.int .i64 a2_1) := (blk_cell BK769.out 1).trans rfl
        have hfz102_0 := blk_frozen BK769.out 0
        have hfz102_1 := blk_frozen BK769.out 1
        go_wp2_with (first | ((with_reducible refine gate_callee (f := 45) rfl ?_); refine goesL_ (some 47) rfl rfl Tryd.func45 (by kernel_rfl) rfl #[.slice A0 l0.length c0, .int .i64 a1, .agg #[.int .i64 a2_0, .int .i64 a2_1]] rfl tm_ ?_; (with_reducible refine (refill_Known.calls _ _ l0 a1 a2_0 a2_1 t777 t780 _ ?side1 ?side2 A27.out).mono ?_); (case side1 => exact cl_ (Kd.C_below HR0.out HB.out)); (case side2 => exact HC0.out); rintro e w103 ⟨v778, rfl, ho0, hb⟩; refine ⟨_, rfl, ?_⟩; have n0_ := a_ (Kd.V_elder' (vl_ HO_3.out) (Kd.R_base ho0) hb); have n1_ := a_ (Kd.R_lower (Kd.R_newM (M := fun k_ => (w.heap.size ≤ k_)) ho0 (below_size bl_) (fun k_ h_ => h_)) (below_size bl_)); have n2_ := a_ (bb_ BK769.out hb); have n3_ := a_ (below_step bl_ hb); clear HO_3; clear BK769; clear HB; have HO_3 := n0_; have HO779 := n1_; have BK769 := n2_; have HB := n3_; clear n0_ n1_ n2_ n3_; (try clear hb); (try clear hb2); (try clear hk); (try clear hi); (try clear ho0); obtain ⟨Ao104, co104, eo104⟩ := Kd.R_slice HO779.out; subst eo104))
        go_ret
        exact ⟨by first | rfl | (simp [errW_none, errW_some] <;> rfl) | (simp [*, errW_none, errW_some] <;> rfl), bl_⟩
      ·rw [if_neg c97] at H
       have c97b0 : ((t777.length : Int) == 0) = false := beq_eq_false_iff_ne.mpr c97
       have c97b1 : ((t777.length : Int) != 0) = true := bne_iff_ne.mpr c97
       have c97b2 : ¬ (t777 = []) := fun h_ => c97 (by rw [h_]; rfl)
       exact absurd (H.trans (congrArg some hrt.out)) (by simp)
 ·replace c8 := Bool.eq_false_iff.mpr c8
  subst c8
  have H1 : (some false) = some r := by rw [if_neg (show ¬ (false = true) by decide)] at H; exact H
  clear H
  have H := H1
  clear H1
  exact absurd (H.trans (congrArg some hrt.out)) (by simp)

end Go.Proofs.YtgiihjcpgjpkcaaDoor.Q
