/- Contracts of functions of the given program: each Go function as a plain Lean function (name.f) and the proof that its call answers just so, for every reading of its arguments. Written by the session's program wip/xprint.py out of the translation. -/
import Derived.Test.YtgiihjcpgjpkcaaDoorQ0
import Derived.Test.YtgiihjcpgjpkcaaDoorQB
import Derived.Test.YtgiihjcpgjpkcaaDoorQD
import Derived.Test.YtgiihjcpgjpkcaaDoorQDc
import Derived.Test.YtgiihjcpgjpkcaaDoorQE
import Derived.Test.YtgiihjcpgjpkcaaDoorQF
import Derived.Test.YtgiihjcpgjpkcaaDoorQI
import Derived.Test.YtgiihjcpgjpkcaaDoorQO
import Derived.Test.YtgiihjcpgjpkcaaDoorQP
import Derived.Test.YtgiihjcpgjpkcaaDoorQQ
import Derived.Test.YtgiihjcpgjpkcaaDoorHCheck
import Derived.Test.YtgiihjcpgjpkcaaDoorHEnds
import Derived.Test.YtgiihjcpgjpkcaaDoorHRCheck
import Derived.Test.YtgiihjcpgjpkcaaDoorHSane
namespace Go.Proofs.YtgiihjcpgjpkcaaDoor.Q
open Go.RowKit Go.Proofs.YtgiihjcpgjpkcaaDoorW.PrintWords Go.Proofs.YtgiihjcpgjpkcaaDoorW.PrintLast Go.Proofs.YtgiihjcpgjpkcaaDoorW.PrintMore
attribute [local go_sem] max2_int min2_int max_two min_two max_three min_three max_four min_four   -- for this text's walks alone
set_option linter.unusedVariables false
set_option linter.unusedSimpArgs false

attribute [local go_sem high] eqA49
/-! ### waterhourlaw04_RefillTimes: function 13 -/
mutual
def waterhourlaw04_RefillTimes.j0 : Nat → List (S51) → Int → Int → Int → Bool → Option (Bool)
 | 0, _, _, _, _, _ => none
 | k + 1, x0, x2, x3, x4, x47 => if x47 = true then (some false) else ((refill_Possible.f k x0).bind fun bt731 => ((waterhourref04_Possible.f k x0).bind fun bt733 => ((refill_Earliest.f x0).bind fun bt735 => ((waterhourref04_Earliest.f k x0).bind fun bt739 => ((refill_Latest.f x0).bind fun bt743 => ((waterhourref04_Latest.f k x0).bind fun bt747 => (if (bt731.1 != bt733.1) = true then (waterhourlaw04_RefillTimes.j1 k x0 x2 x3 x4 true) else (if bt731.2 = bt733.2 then ((slices_Equal_int_int.f k bt735.1 bt739.1).bind fun t751 => (if t751 = true then (if bt735.2 = bt739.2 then ((slices_Equal_int_int.f k bt743.1 bt747.1).bind fun t752 => (if t752 = true then (waterhourlaw04_RefillTimes.j1 k x0 x2 x3 x4 (bt743.2 != bt747.2)) else (waterhourlaw04_RefillTimes.j1 k x0 x2 x3 x4 true))) else (waterhourlaw04_RefillTimes.j1 k x0 x2 x3 x4 true)) else (waterhourlaw04_RefillTimes.j1 k x0 x2 x3 x4 true))) else (waterhourlaw04_RefillTimes.j1 k x0 x2 x3 x4 true)))))))))
def waterhourlaw04_RefillTimes.j1 : Nat → List (S51) → Int → Int → Int → Bool → Option (Bool)
 | 0, _, _, _, _, _ => none
 | k + 1, x0, x2, x3, x4, x107 => if x107 = true then (some false) else ((refill_Time.f k x0 x2).bind fun bt753 => ((waterhourref04_Time.f k x0 x2).bind fun bt757 => ((refill_Between.f k x0 x3 x4).bind fun bt761 => ((waterhourref04_Between.f k x0 x3 x4).bind fun bt765 => (if (bt753.1 == bt757.1 && (bt753.2.1 == bt757.2.1)) = true then (if bt753.2.2 = bt757.2.2 then (if (bt761.1 == bt765.1 && (bt761.2.1 == bt765.2.1)) = true then (some (bt761.2.2 == bt765.2.2)) else (some false)) else (some false)) else (some false))))))
end
def waterhourlaw04_RefillTimes.f (k : Nat) (l0 : List (S51)) (l1 : List Int) (a2 : Int) (a3 : Int) (a4 : Int) : Option (Bool) := (law_sane.f).bind fun t722 => (if t722 = true then ((waterhourlaw04_few.f k l0 (([l1] : List (List Int)))).bind fun t726 => (if t726 = true then ((refill_Check.f k l0).bind fun t727 => ((waterhourref04_Check.f k l0).bind fun t728 => (if t727 = t728 then ((refill_CheckTimes.f l0 l1).bind fun t729 => ((waterhourref04_CheckTimes.f l0 l1).bind fun t730 => (waterhourlaw04_RefillTimes.j0 k l0 a2 a3 a4 (t729 != t730)))) else (waterhourlaw04_RefillTimes.j0 k l0 a2 a3 a4 true)))) else (some true))) else (some false))
theorem waterhourlaw04_RefillTimes.mono_l : ∀ k, (∀ y0 y1 y2 y3 y4, LeO (waterhourlaw04_RefillTimes.j0 k y0 y1 y2 y3 y4) (waterhourlaw04_RefillTimes.j0 (k + 1) y0 y1 y2 y3 y4)) ∧ (∀ y0 y1 y2 y3 y4, LeO (waterhourlaw04_RefillTimes.j1 k y0 y1 y2 y3 y4) (waterhourlaw04_RefillTimes.j1 (k + 1) y0 y1 y2 y3 y4))
 | 0 => ⟨fun _ _ _ _ _ r h => by simp [waterhourlaw04_RefillTimes.j0] at h, fun _ _ _ _ _ r h => by simp [waterhourlaw04_RefillTimes.j1] at h⟩
 | k + 1 => by
  obtain ⟨ih0, ih1⟩ := waterhourlaw04_RefillTimes.mono_l k
  refine ⟨?_, ?_⟩
  ·intro y0 y1 y2 y3 y4
   unfold waterhourlaw04_RefillTimes.j0
   repeat' first
   | (with_reducible exact ih0 _ _ _ _ _)
   | (with_reducible exact ih1 _ _ _ _ _)
   | (with_reducible exact refill_Between.mono _ _ _ _)
   | (with_reducible exact refill_Check.mono _ _)
   | (with_reducible exact refill_Possible.mono _ _)
   | (with_reducible exact refill_Time.mono _ _ _)
   | (with_reducible exact slices_Equal_int_int.mono _ _ _)
   | (with_reducible exact waterhourlaw04_few.mono _ _ _)
   | (with_reducible exact waterhourref04_Between.mono _ _ _ _)
   | (with_reducible exact waterhourref04_Check.mono _ _)
   | (with_reducible exact waterhourref04_Earliest.mono _ _)
   | (with_reducible exact waterhourref04_Latest.mono _ _)
   | (with_reducible exact waterhourref04_Possible.mono _ _)
   | (with_reducible exact waterhourref04_Time.mono _ _ _)
   | (with_reducible exact LeO.refl _)
   | (with_reducible exact LeO.none _)
   | (with_reducible refine LeO.ite ?_ ?_)
   | (with_reducible refine LeO.bind ?_ (fun _ => ?_))
   | exact ih0 _ _ _ _ _
   | exact ih1 _ _ _ _ _
   | exact refill_Between.mono _ _ _ _
   | exact refill_Check.mono _ _
   | exact refill_Possible.mono _ _
   | exact refill_Time.mono _ _ _
   | exact slices_Equal_int_int.mono _ _ _
   | exact waterhourlaw04_few.mono _ _ _
   | exact waterhourref04_Between.mono _ _ _ _
   | exact waterhourref04_Check.mono _ _
   | exact waterhourref04_Earliest.mono _ _
   | exact waterhourref04_Latest.mono _ _
   | exact waterhourref04_Possible.mono _ _
   | exact waterhourref04_Time.mono _ _ _
   | exact LeO.none _
   | refine LeO.ite ?_ ?_
   | refine LeO.bind ?_ (fun _ => ?_)
  ·intro y0 y1 y2 y3 y4
   unfold waterhourlaw04_RefillTimes.j1
   repeat' first
   | (with_reducible exact ih0 _ _ _ _ _)
   | (with_reducible exact ih1 _ _ _ _ _)
   | (with_reducible exact refill_Between.mono _ _ _ _)
   | (with_reducible exact refill_Check.mono _ _)
   | (with_reducible exact refill_Possible.mono _ _)
   | (with_reducible exact refill_Time.mono _ _ _)
   | (with_reducible exact slices_Equal_int_int.mono _ _ _)
   | (with_reducible exact waterhourlaw04_few.mono _ _ _)
   | (with_reducible exact waterhourref04_Between.mono _ _ _ _)
   | (with_reducible exact waterhourref04_Check.mono _ _)
   | (with_reducible exact waterhourref04_Earliest.mono _ _)
   | (with_reducible exact waterhourref04_Latest.mono _ _)
   | (with_reducible exact waterhourref04_Possible.mono _ _)
   | (with_reducible exact waterhourref04_Time.mono _ _ _)
   | (with_reducible exact LeO.refl _)
   | (with_reducible exact LeO.none _)
   | (with_reducible refine LeO.ite ?_ ?_)
   | (with_reducible refine LeO.bind ?_ (fun _ => ?_))
   | exact ih0 _ _ _ _ _
   | exact ih1 _ _ _ _ _
   | exact refill_Between.mono _ _ _ _
   | exact refill_Check.mono _ _
   | exact refill_Possible.mono _ _
   | exact refill_Time.mono _ _ _
   | exact slices_Equal_int_int.mono _ _ _
   | exact waterhourlaw04_few.mono _ _ _
   | exact waterhourref04_Between.mono _ _ _ _
   | exact waterhourref04_Check.mono _ _
   | exact waterhourref04_Earliest.mono _ _
   | exact waterhourref04_Latest.mono _ _
   | exact waterhourref04_Possible.mono _ _
   | exact waterhourref04_Time.mono _ _ _
   | exact LeO.none _
   | refine LeO.ite ?_ ?_
   | refine LeO.bind ?_ (fun _ => ?_)
theorem waterhourlaw04_RefillTimes.mono : ∀ a0 a1 a2 a3 a4 k, LeO (waterhourlaw04_RefillTimes.f k a0 a1 a2 a3 a4) (waterhourlaw04_RefillTimes.f (k + 1) a0 a1 a2 a3 a4) := by
 intro a0 a1 a2 a3 a4 k
 obtain ⟨ih0, ih1⟩ := waterhourlaw04_RefillTimes.mono_l k
 unfold waterhourlaw04_RefillTimes.f
 repeat' first
   | (with_reducible exact ih0 _ _ _ _ _)
   | (with_reducible exact ih1 _ _ _ _ _)
   | (with_reducible exact refill_Between.mono _ _ _ _)
   | (with_reducible exact refill_Check.mono _ _)
   | (with_reducible exact refill_Possible.mono _ _)
   | (with_reducible exact refill_Time.mono _ _ _)
   | (with_reducible exact slices_Equal_int_int.mono _ _ _)
   | (with_reducible exact waterhourlaw04_few.mono _ _ _)
   | (with_reducible exact waterhourref04_Between.mono _ _ _ _)
   | (with_reducible exact waterhourref04_Check.mono _ _)
   | (with_reducible exact waterhourref04_Earliest.mono _ _)
   | (with_reducible exact waterhourref04_Latest.mono _ _)
   | (with_reducible exact waterhourref04_Possible.mono _ _)
   | (with_reducible exact waterhourref04_Time.mono _ _ _)
   | (with_reducible exact LeO.refl _)
   | (with_reducible exact LeO.none _)
   | (with_reducible refine LeO.ite ?_ ?_)
   | (with_reducible refine LeO.bind ?_ (fun _ => ?_))
   | exact ih0 _ _ _ _ _
   | exact ih1 _ _ _ _ _
   | exact refill_Between.mono _ _ _ _
   | exact refill_Check.mono _ _
   | exact refill_Possible.mono _ _
   | exact refill_Time.mono _ _ _
   | exact slices_Equal_int_int.mono _ _ _
   | exact waterhourlaw04_few.mono _ _ _
   | exact waterhourref04_Between.mono _ _ _ _
   | exact waterhourref04_Check.mono _ _
   | exact waterhourref04_Earliest.mono _ _
   | exact waterhourref04_Latest.mono _ _
   | exact waterhourref04_Possible.mono _ _
   | exact waterhourref04_Time.mono _ _ _
   | exact LeO.none _
   | refine LeO.ite ?_ ?_
   | refine LeO.bind ?_ (fun _ => ?_)
set_option maxHeartbeats 8000000 in
set_option maxRecDepth 100000 in
theorem waterhourlaw04_RefillTimes.calls (k : Nat) (A0 : Option Addr) (c0 : Nat) (l0 : List (S51)) (P1_ : Nat → Prop) (A1 : Option Addr) (c1 : Nat) (l1 : List Int) (a2 : Int) (a3 : Int) (a4 : Int) (r : Bool) (w : World) (hr0 : Kd.C k51 w A0 l0.length l0) (hc0 : l0.length ≤ c0) (hs1 : Kd.V (Kd.int .i64) 3 w w.heap.size (fun k_ => P1_ k_) (.slice A1 l1.length c1) l1) (ht : TabB w) (hrt : Aside0 (r = true)) (h : waterhourlaw04_RefillTimes.f k l0 l1 a2 a3 a4 = some r) :
  Calls Tryd.prog 13 #[.slice A0 l0.length c0, .slice A1 l1.length c1, .int .i64 a2, .int .i64 a3, .int .i64 a4] w fun e w' => e = .returned (.bool r) ∧ Below w.heap.size w w' := by
 have hu49 := Tryd.underlying49
 have HR0 := a_ hr0
 have HC0 := a_ hc0
 clear hr0 hc0
 have HO1 := a_ (show Kd.V (Kd.int .i64) 3 w w.heap.size (fun k_ => (P1_ k_ ∨ w.heap.size ≤ k_)) (.slice A1 l1.length c1) l1 from Kd.V_mono hs1 (fun k_ hk => .inl hk))
 have HT := a_ ht
 clear ht
 have HB := a_ (Below.refl w.heap.size w)
 have H : ((law_sane.f).bind fun t722 => (if t722 = true then ((waterhourlaw04_few.f k l0 (([l1] : List (List Int)))).bind fun t726 => (if t726 = true then ((refill_Check.f k l0).bind fun t727 => ((waterhourref04_Check.f k l0).bind fun t728 => (if t727 = t728 then ((refill_CheckTimes.f l0 l1).bind fun t729 => ((waterhourref04_CheckTimes.f l0 l1).bind fun t730 => (waterhourlaw04_RefillTimes.j0 k l0 a2 a3 a4 (t729 != t730)))) else (waterhourlaw04_RefillTimes.j0 k l0 a2 a3 a4 true)))) else (some true))) else (some false))) = some r := h
 clear h
 replace H := Option.bind_eq_some_iff.mp H
 obtain ⟨t722, A60, H⟩ := H
 replace H : (if t722 = true then ((waterhourlaw04_few.f k l0 (([l1] : List (List Int)))).bind fun t726 => (if t726 = true then ((refill_Check.f k l0).bind fun t727 => ((waterhourref04_Check.f k l0).bind fun t728 => (if t727 = t728 then ((refill_CheckTimes.f l0 l1).bind fun t729 => ((waterhourref04_CheckTimes.f l0 l1).bind fun t730 => (waterhourlaw04_RefillTimes.j0 k l0 a2 a3 a4 (t729 != t730)))) else (waterhourlaw04_RefillTimes.j0 k l0 a2 a3 a4 true)))) else (some true))) else (some false)) = some r := H
 have A6 := a_ A60
 clear A60
 by_cases c7 : t722 = true
 ·subst c7
  have H1 : ((waterhourlaw04_few.f k l0 (([l1] : List (List Int)))).bind fun t726 => (if t726 = true then ((refill_Check.f k l0).bind fun t727 => ((waterhourref04_Check.f k l0).bind fun t728 => (if t727 = t728 then ((refill_CheckTimes.f l0 l1).bind fun t729 => ((waterhourref04_CheckTimes.f l0 l1).bind fun t730 => (waterhourlaw04_RefillTimes.j0 k l0 a2 a3 a4 (t729 != t730)))) else (waterhourlaw04_RefillTimes.j0 k l0 a2 a3 a4 true)))) else (some true))) = some r := by rw [if_pos rfl] at H; exact H
  clear H
  have H := H1
  clear H1
  obtain ⟨y723, hy723⟩ : ∃ y_ : List (List Int), y_ = (([l1] : List (List Int))) := ⟨_, rfl⟩
  replace H : ((waterhourlaw04_few.f k l0 y723).bind fun t726 => (if t726 = true then ((refill_Check.f k l0).bind fun t727 => ((waterhourref04_Check.f k l0).bind fun t728 => (if t727 = t728 then ((refill_CheckTimes.f l0 l1).bind fun t729 => ((waterhourref04_CheckTimes.f l0 l1).bind fun t730 => (waterhourlaw04_RefillTimes.j0 k l0 a2 a3 a4 (t729 != t730)))) else (waterhourlaw04_RefillTimes.j0 k l0 a2 a3 a4 true)))) else (some true))) = some r := by first | (rw [hy723]; with_reducible exact H) | (have H2_ := (Option.bind_some _ _).symm.trans H; rw [hy723]; with_reducible exact H2_) | (have H2_ := (Option.bind_some _ _).symm.trans H; with_reducible exact H2_) | with_reducible exact H | (rw [hy723]; exact H) | exact H
  have Ny723 := a_ hy723
  clear hy723
  replace H := Option.bind_eq_some_iff.mp H
  obtain ⟨t726, A80, H⟩ := H
  replace H : (if t726 = true then ((refill_Check.f k l0).bind fun t727 => ((waterhourref04_Check.f k l0).bind fun t728 => (if t727 = t728 then ((refill_CheckTimes.f l0 l1).bind fun t729 => ((waterhourref04_CheckTimes.f l0 l1).bind fun t730 => (waterhourlaw04_RefillTimes.j0 k l0 a2 a3 a4 (t729 != t730)))) else (waterhourlaw04_RefillTimes.j0 k l0 a2 a3 a4 true)))) else (some true)) = some r := H
  have A8 := a_ A80
  clear A80
  by_cases c9 : t726 = true
  ·subst c9
   have H1 : ((refill_Check.f k l0).bind fun t727 => ((waterhourref04_Check.f k l0).bind fun t728 => (if t727 = t728 then ((refill_CheckTimes.f l0 l1).bind fun t729 => ((waterhourref04_CheckTimes.f l0 l1).bind fun t730 => (waterhourlaw04_RefillTimes.j0 k l0 a2 a3 a4 (t729 != t730)))) else (waterhourlaw04_RefillTimes.j0 k l0 a2 a3 a4 true)))) = some r := by rw [if_pos rfl] at H; exact H
   clear H
   have H := H1
   clear H1
   have HC10 := a_ H
   clear H
   go_enter Tryd.func13, Tryd.ntmps13
   go_upto_region 5 with (first | ((with_reducible refine gate_callee (f := 18) rfl ?_); refine goesL_ (some 27) rfl rfl Tryd.func18 (by kernel_rfl) rfl #[] rfl tm_ ?_; (with_reducible refine (law_sane.calls  true _ ?side1 A6.out).mono ?_); (case side1 => exact TabB.below HT.out bl_); rintro e w11 ⟨rfl, hb⟩; refine ⟨_, rfl, ?_⟩; have n0_ := a_ (Kd.V_below (vl_ HO1.out) hb); have n1_ := a_ (below_step bl_ hb); clear HO1; clear HB; have HO1 := n0_; have HB := n1_; clear n0_ n1_; (try clear hb); (try clear hb2); (try clear hk); (try clear hi)) | ((with_reducible refine gate_dst (N := 31) rfl ?_); refine Kd.N_lit (Kd.slice 3 (Kd.int .i64)) _ 26 ?hg (N' := 31) ?hd (xs := ([l1] : List (List Int))) (inner := [.slice A1 l1.length c1]) (ok := (fun k_ => (P1_ k_ ∨ w.heap.size ≤ k_))) (okp := (fun k_ => (P1_ k_ ∨ w.heap.size ≤ k_))) ?hr ?hp (fun _ hk => hk) ((show ∀ k_, w11.heap.size ≤ k_ → (fun k_ => (P1_ k_ ∨ w.heap.size ≤ k_)) k_ from fun k_ hk => (.inr (Nat.le_trans (below_size bl_) hk))) _ (Nat.le_refl _)) (Below.refl _ _) (Nat.le_refl _) (by simp) ?_; (case hd => rfl); (case hg => rfl); (case hr => first | (go_simp; done) | (go_simp; rfl)); (case hp => exact (Reps.one (show Kd.FK (Kd.slice 3 (Kd.int .i64)) _ _ l1 [.slice A1 l1.length c1] from (Kd.FK_slice_mk (Kd.V_reads' (Kd.V_mono (ok' := (fun k_ => (P1_ k_ ∨ w.heap.size ≤ k_))) (HO1.out) (fun k_ hk => hk))).2.1 (Kd.V_F (Kd.V_mono (ok' := (fun k_ => (P1_ k_ ∨ w.heap.size ≤ k_))) (HO1.out) (fun k_ hk => hk))))) (Reps.none _ _))); intro v724 w12 ho13 hb hg_ hnew_; clear hg_ hnew_; (first | rw [← Ny723.out] at ho13 | (simp only [Int.reduceToNat] at ho13; rw [← Ny723.out] at ho13)); have n0_ := a_ (Kd.V_elder' (vl_ HO1.out) (Kd.N_base ho13) hb); have n1_ := a_ (Kd.N_lower ho13 (below_size bl_)); have n2_ := a_ (below_step bl_ hb); clear HO1; clear HB; have HO1 := n0_; have HO725 := n1_; have HB := n2_; clear n0_ n1_ n2_; clear hb ho13; obtain ⟨Ao14, co14, eo14⟩ := Kd.N_slice HO725.out; subst eo14) | ((with_reducible refine gate_callee (f := 19) rfl ?_); refine goesL_ (some 32) rfl rfl Tryd.func19 (by kernel_rfl) rfl #[.slice A0 l0.length c0, .slice Ao14 y723.length co14] rfl tm_ ?_; (with_reducible refine (waterhourlaw04_few.calls k _ _ l0 _ _ y723 true _ ?side1 ?side2 ?side3 ?side4 A8.out).mono ?_); (case side1 => exact cl_ (Kd.C_below HR0.out HB.out)); (case side2 => exact HC0.out); (case side3 => exact cl_ ((Kd.N_reads' HO725.out).2.2)); (case side4 => exact (Kd.N_reads' HO725.out).2.1); rintro e w' ⟨rfl, ⟨nd, rfl⟩⟩; refine ⟨_, rfl, ?_⟩))
   (try simp only [Act.put, List.setIfInBounds_toArray, List.set_cons_zero, List.set_cons_succ])
   go_cut [47] (fun v47 wc => ∃ (kq : Nat) (x47_9 : Bool), v47 = .bool x47_9 ∧ Aside0 (waterhourlaw04_RefillTimes.j0 kq l0 a2 a3 a4 x47_9 = some r) ∧ Aside0 (kq ≤ k) ∧ Aside0 (Below w.heap.size w wc))
   case first =>
    have H := HC10.out
    clear HC10
    replace H := Option.bind_eq_some_iff.mp H
    obtain ⟨t727, A150, H⟩ := H
    replace H : ((waterhourref04_Check.f k l0).bind fun t728 => (if t727 = t728 then ((refill_CheckTimes.f l0 l1).bind fun t729 => ((waterhourref04_CheckTimes.f l0 l1).bind fun t730 => (waterhourlaw04_RefillTimes.j0 k l0 a2 a3 a4 (t729 != t730)))) else (waterhourlaw04_RefillTimes.j0 k l0 a2 a3 a4 true))) = some r := H
    have A15 := a_ A150
    clear A150
    replace H := Option.bind_eq_some_iff.mp H
    obtain ⟨t728, A160, H⟩ := H
    replace H : (if t727 = t728 then ((refill_CheckTimes.f l0 l1).bind fun t729 => ((waterhourref04_CheckTimes.f l0 l1).bind fun t730 => (waterhourlaw04_RefillTimes.j0 k l0 a2 a3 a4 (t729 != t730)))) else (waterhourlaw04_RefillTimes.j0 k l0 a2 a3 a4 true)) = some r := H
    have A16 := a_ A160
    clear A160
    by_cases c17 : t727 = t728
    ·rw [if_pos c17] at H
     have c17b0 : (t727 == t728) = true := beq_iff_eq.mpr c17
     have c17b1 : (t727 != t728) = false := bne_eq_false_iff_eq.mpr c17
     clear c17
     (first | rw [c17b0] | (simp only [i64_w, i32_w]; rw [c17b0]) | skip)
     replace H := Option.bind_eq_some_iff.mp H
     obtain ⟨t729, A180, H⟩ := H
     replace H : ((waterhourref04_CheckTimes.f l0 l1).bind fun t730 => (waterhourlaw04_RefillTimes.j0 k l0 a2 a3 a4 (t729 != t730))) = some r := H
     have A18 := a_ A180
     clear A180
     replace H := Option.bind_eq_some_iff.mp H
     obtain ⟨t730, A190, H⟩ := H
     replace H : (waterhourlaw04_RefillTimes.j0 k l0 a2 a3 a4 (t729 != t730)) = some r := H
     have A19 := a_ A190
     clear A190
     have H' := a_ H
     clear H
     go_wp2_with (first | ((with_reducible refine gate_callee (f := 47) rfl ?_); refine goesL_ (some 35) rfl rfl Tryd.func47 (by kernel_rfl) rfl #[.slice A0 l0.length c0] rfl tm_ ?_; (with_reducible refine (refill_Check.calls k _ _ l0 t727 _ ?side1 ?side2 A15.out).mono ?_); (case side1 => exact cl_ (Kd.C_below HR0.out HB.out)); (case side2 => exact HC0.out); rintro e w20 ⟨rfl, hb⟩; refine ⟨_, rfl, ?_⟩; have n0_ := a_ (Kd.V_below (vl_ HO1.out) hb); have n1_ := a_ (Kd.N_below (by (with_reducible repeat (first | apply Kd.N_alloc | apply Kd.N_drewN | apply Kd.N_drew)); exact HO725.out) hb); have n2_ := a_ (below_step bl_ hb); clear HO1; clear HO725; clear HB; have HO1 := n0_; have HO725 := n1_; have HB := n2_; clear n0_ n1_ n2_; (try clear hb); (try clear hb2); (try clear hk); (try clear hi)) | ((with_reducible refine gate_callee (f := 48) rfl ?_); refine goesL_ (some 37) rfl rfl Tryd.func48 (by kernel_rfl) rfl #[.slice A0 l0.length c0] rfl tm_ ?_; (with_reducible refine (waterhourref04_Check.calls k _ _ l0 t728 _ ?side1 ?side2 A16.out).mono ?_); (case side1 => exact cl_ (Kd.C_below HR0.out HB.out)); (case side2 => exact HC0.out); rintro e w21 ⟨rfl, hb⟩; refine ⟨_, rfl, ?_⟩; have n0_ := a_ (Kd.V_below (vl_ HO1.out) hb); have n1_ := a_ (Kd.N_below (by (with_reducible repeat (first | apply Kd.N_alloc | apply Kd.N_drewN | apply Kd.N_drew)); exact HO725.out) hb); have n2_ := a_ (below_step bl_ hb); clear HO1; clear HO725; clear HB; have HO1 := n0_; have HO725 := n1_; have HB := n2_; clear n0_ n1_ n2_; (try clear hb); (try clear hb2); (try clear hk); (try clear hi)) | (go_at_call 33; (with_reducible refine (refill_CheckTimes.calls _ _ l0 _ _ l1 t729 _ ?side1 ?side2 ?side3 ?side4 A18.out).mono ?_); (case side1 => exact cl_ (Kd.C_below HR0.out HB.out)); (case side2 => exact HC0.out); (case side3 => exact cl_ ((Kd.V_reads' HO1.out).2.2)); (case side4 => exact (Kd.V_reads' HO1.out).2.1); rintro e w22 ⟨rfl, hb⟩; have n0_ := a_ (Kd.V_below (vl_ HO1.out) hb); have n1_ := a_ (Kd.N_below (by (with_reducible repeat (first | apply Kd.N_alloc | apply Kd.N_drewN | apply Kd.N_drew)); exact HO725.out) hb); have n2_ := a_ (below_step bl_ hb); clear HO1; clear HO725; clear HB; have HO1 := n0_; have HO725 := n1_; have HB := n2_; clear n0_ n1_ n2_; (try clear hb); (try clear hb2); (try clear hk); (try clear hi)) | (go_at_call 49; (with_reducible refine (waterhourref04_CheckTimes.calls _ _ l0 _ _ l1 t730 _ ?side1 ?side2 ?side3 ?side4 A19.out).mono ?_); (case side1 => exact cl_ (Kd.C_below HR0.out HB.out)); (case side2 => exact HC0.out); (case side3 => exact cl_ ((Kd.V_reads' HO1.out).2.2)); (case side4 => exact (Kd.V_reads' HO1.out).2.1); rintro e w23 ⟨rfl, hb⟩; have n0_ := a_ (Kd.V_below (vl_ HO1.out) hb); have n1_ := a_ (Kd.N_below (by (with_reducible repeat (first | apply Kd.N_alloc | apply Kd.N_drewN | apply Kd.N_drew)); exact HO725.out) hb); have n2_ := a_ (below_step bl_ hb); clear HO1; clear HO725; clear HB; have HO1 := n0_; have HO725 := n1_; have HB := n2_; clear n0_ n1_ n2_; (try clear hb); (try clear hb2); (try clear hk); (try clear hi)))
     go_meet
     case rel => exact ⟨_, ((t729 != t730)), (by first | rfl | (simp; done) | (simp [*]; done)), H', ⟨by first | omega | exact Nat.le_refl _⟩, ⟨bl_⟩⟩
    ·rw [if_neg c17] at H
     have c17b0 : (t727 == t728) = false := beq_eq_false_iff_ne.mpr c17
     have c17b1 : (t727 != t728) = true := bne_iff_ne.mpr c17
     (first | rw [c17b0] | (simp only [i64_w, i32_w]; rw [c17b0]) | skip)
     have H' := a_ H
     clear H
     go_wp2_with (first | ((with_reducible refine gate_callee (f := 47) rfl ?_); refine goesL_ (some 35) rfl rfl Tryd.func47 (by kernel_rfl) rfl #[.slice A0 l0.length c0] rfl tm_ ?_; (with_reducible refine (refill_Check.calls k _ _ l0 t727 _ ?side1 ?side2 A15.out).mono ?_); (case side1 => exact cl_ (Kd.C_below HR0.out HB.out)); (case side2 => exact HC0.out); rintro e w24 ⟨rfl, hb⟩; refine ⟨_, rfl, ?_⟩; have n0_ := a_ (Kd.V_below (vl_ HO1.out) hb); have n1_ := a_ (Kd.N_below (by (with_reducible repeat (first | apply Kd.N_alloc | apply Kd.N_drewN | apply Kd.N_drew)); exact HO725.out) hb); have n2_ := a_ (below_step bl_ hb); clear HO1; clear HO725; clear HB; have HO1 := n0_; have HO725 := n1_; have HB := n2_; clear n0_ n1_ n2_; (try clear hb); (try clear hb2); (try clear hk); (try clear hi)) | ((with_reducible refine gate_callee (f := 48) rfl ?_); refine goesL_ (some 37) rfl rfl Tryd.func48 (by kernel_rfl) rfl #[.slice A0 l0.length c0] rfl tm_ ?_; (with_reducible refine (waterhourref04_Check.calls k _ _ l0 t728 _ ?side1 ?side2 A16.out).mono ?_); (case side1 => exact cl_ (Kd.C_below HR0.out HB.out)); (case side2 => exact HC0.out); rintro e w25 ⟨rfl, hb⟩; refine ⟨_, rfl, ?_⟩; have n0_ := a_ (Kd.V_below (vl_ HO1.out) hb); have n1_ := a_ (Kd.N_below (by (with_reducible repeat (first | apply Kd.N_alloc | apply Kd.N_drewN | apply Kd.N_drew)); exact HO725.out) hb); have n2_ := a_ (below_step bl_ hb); clear HO1; clear HO725; clear HB; have HO1 := n0_; have HO725 := n1_; have HB := n2_; clear n0_ n1_ n2_; (try clear hb); (try clear hb2); (try clear hk); (try clear hi)))
     go_meet
     case rel => exact ⟨_, (true), (by first | rfl | (simp; done) | (simp [*]; done)), H', ⟨by first | omega | exact Nat.le_refl _⟩, ⟨bl_⟩⟩
   case rest =>
    clear HC10
    try clear c1
    try clear p2
    try clear c4
    try clear c7
    try clear c9
    try clear c13
    try clear c17
    try clear c17b0
    try clear c17b1
    try clear c18
    try clear c19
    obtain ⟨kq, x47_9, rfl, HA, HJ9, HB⟩ := hcut
    cases kq with
    | zero => exact absurd HA.out (by simp [waterhourlaw04_RefillTimes.j0])
    | succ kj9 =>
     have H := HA.out
     clear HA
     simp only [waterhourlaw04_RefillTimes.j0] at H
     by_cases c26 : x47_9 = true
     ·subst c26
      have H1 : (some false) = some r := by rw [if_pos rfl] at H; exact H
      clear H
      have H := H1
      clear H1
      exact absurd (H.trans (congrArg some hrt.out)) (by simp)
     ·replace c26 := Bool.eq_false_iff.mpr c26
      subst c26
      have H1 : ((refill_Possible.f kj9 l0).bind fun bt731 => ((waterhourref04_Possible.f kj9 l0).bind fun bt733 => ((refill_Earliest.f l0).bind fun bt735 => ((waterhourref04_Earliest.f kj9 l0).bind fun bt739 => ((refill_Latest.f l0).bind fun bt743 => ((waterhourref04_Latest.f kj9 l0).bind fun bt747 => (if (bt731.1 != bt733.1) = true then (waterhourlaw04_RefillTimes.j1 kj9 l0 a2 a3 a4 true) else (if bt731.2 = bt733.2 then ((slices_Equal_int_int.f kj9 bt735.1 bt739.1).bind fun t751 => (if t751 = true then (if bt735.2 = bt739.2 then ((slices_Equal_int_int.f kj9 bt743.1 bt747.1).bind fun t752 => (if t752 = true then (waterhourlaw04_RefillTimes.j1 kj9 l0 a2 a3 a4 (bt743.2 != bt747.2)) else (waterhourlaw04_RefillTimes.j1 kj9 l0 a2 a3 a4 true))) else (waterhourlaw04_RefillTimes.j1 kj9 l0 a2 a3 a4 true)) else (waterhourlaw04_RefillTimes.j1 kj9 l0 a2 a3 a4 true))) else (waterhourlaw04_RefillTimes.j1 kj9 l0 a2 a3 a4 true))))))))) = some r := by rw [if_neg (show ¬ (false = true) by decide)] at H; exact H
      clear H
      have H := H1
      clear H1
      replace H := Option.bind_eq_some_iff.mp H
      obtain ⟨⟨t731, t732⟩, A270, H⟩ := H
      replace H : ((waterhourref04_Possible.f kj9 l0).bind fun bt733 => ((refill_Earliest.f l0).bind fun bt735 => ((waterhourref04_Earliest.f kj9 l0).bind fun bt739 => ((refill_Latest.f l0).bind fun bt743 => ((waterhourref04_Latest.f kj9 l0).bind fun bt747 => (if (t731 != bt733.1) = true then (waterhourlaw04_RefillTimes.j1 kj9 l0 a2 a3 a4 true) else (if t732 = bt733.2 then ((slices_Equal_int_int.f kj9 bt735.1 bt739.1).bind fun t751 => (if t751 = true then (if bt735.2 = bt739.2 then ((slices_Equal_int_int.f kj9 bt743.1 bt747.1).bind fun t752 => (if t752 = true then (waterhourlaw04_RefillTimes.j1 kj9 l0 a2 a3 a4 (bt743.2 != bt747.2)) else (waterhourlaw04_RefillTimes.j1 kj9 l0 a2 a3 a4 true))) else (waterhourlaw04_RefillTimes.j1 kj9 l0 a2 a3 a4 true)) else (waterhourlaw04_RefillTimes.j1 kj9 l0 a2 a3 a4 true))) else (waterhourlaw04_RefillTimes.j1 kj9 l0 a2 a3 a4 true)))))))) = some r := H
      have A27 := a_ A270
      clear A270
      replace H := Option.bind_eq_some_iff.mp H
      obtain ⟨⟨t733, t734⟩, A280, H⟩ := H
      replace H : ((refill_Earliest.f l0).bind fun bt735 => ((waterhourref04_Earliest.f kj9 l0).bind fun bt739 => ((refill_Latest.f l0).bind fun bt743 => ((waterhourref04_Latest.f kj9 l0).bind fun bt747 => (if (t731 != t733) = true then (waterhourlaw04_RefillTimes.j1 kj9 l0 a2 a3 a4 true) else (if t732 = t734 then ((slices_Equal_int_int.f kj9 bt735.1 bt739.1).bind fun t751 => (if t751 = true then (if bt735.2 = bt739.2 then ((slices_Equal_int_int.f kj9 bt743.1 bt747.1).bind fun t752 => (if t752 = true then (waterhourlaw04_RefillTimes.j1 kj9 l0 a2 a3 a4 (bt743.2 != bt747.2)) else (waterhourlaw04_RefillTimes.j1 kj9 l0 a2 a3 a4 true))) else (waterhourlaw04_RefillTimes.j1 kj9 l0 a2 a3 a4 true)) else (waterhourlaw04_RefillTimes.j1 kj9 l0 a2 a3 a4 true))) else (waterhourlaw04_RefillTimes.j1 kj9 l0 a2 a3 a4 true))))))) = some r := H
      have A28 := a_ A280
      clear A280
      replace H := Option.bind_eq_some_iff.mp H
      obtain ⟨⟨t735, t736⟩, A290, H⟩ := H
      replace H : ((waterhourref04_Earliest.f kj9 l0).bind fun bt739 => ((refill_Latest.f l0).bind fun bt743 => ((waterhourref04_Latest.f kj9 l0).bind fun bt747 => (if (t731 != t733) = true then (waterhourlaw04_RefillTimes.j1 kj9 l0 a2 a3 a4 true) else (if t732 = t734 then ((slices_Equal_int_int.f kj9 t735 bt739.1).bind fun t751 => (if t751 = true then (if t736 = bt739.2 then ((slices_Equal_int_int.f kj9 bt743.1 bt747.1).bind fun t752 => (if t752 = true then (waterhourlaw04_RefillTimes.j1 kj9 l0 a2 a3 a4 (bt743.2 != bt747.2)) else (waterhourlaw04_RefillTimes.j1 kj9 l0 a2 a3 a4 true))) else (waterhourlaw04_RefillTimes.j1 kj9 l0 a2 a3 a4 true)) else (waterhourlaw04_RefillTimes.j1 kj9 l0 a2 a3 a4 true))) else (waterhourlaw04_RefillTimes.j1 kj9 l0 a2 a3 a4 true)))))) = some r := H
      have A29 := a_ A290
      clear A290
      replace H := Option.bind_eq_some_iff.mp H
      obtain ⟨⟨t739, t740⟩, A300, H⟩ := H
      replace H : ((refill_Latest.f l0).bind fun bt743 => ((waterhourref04_Latest.f kj9 l0).bind fun bt747 => (if (t731 != t733) = true then (waterhourlaw04_RefillTimes.j1 kj9 l0 a2 a3 a4 true) else (if t732 = t734 then ((slices_Equal_int_int.f kj9 t735 t739).bind fun t751 => (if t751 = true then (if t736 = t740 then ((slices_Equal_int_int.f kj9 bt743.1 bt747.1).bind fun t752 => (if t752 = true then (waterhourlaw04_RefillTimes.j1 kj9 l0 a2 a3 a4 (bt743.2 != bt747.2)) else (waterhourlaw04_RefillTimes.j1 kj9 l0 a2 a3 a4 true))) else (waterhourlaw04_RefillTimes.j1 kj9 l0 a2 a3 a4 true)) else (waterhourlaw04_RefillTimes.j1 kj9 l0 a2 a3 a4 true))) else (waterhourlaw04_RefillTimes.j1 kj9 l0 a2 a3 a4 true))))) = some r := H
      have A30 := a_ A300
      clear A300
      replace H := Option.bind_eq_some_iff.mp H
      obtain ⟨⟨t743, t744⟩, A310, H⟩ := H
      replace H : ((waterhourref04_Latest.f kj9 l0).bind fun bt747 => (if (t731 != t733) = true then (waterhourlaw04_RefillTimes.j1 kj9 l0 a2 a3 a4 true) else (if t732 = t734 then ((slices_Equal_int_int.f kj9 t735 t739).bind fun t751 => (if t751 = true then (if t736 = t740 then ((slices_Equal_int_int.f kj9 t743 bt747.1).bind fun t752 => (if t752 = true then (waterhourlaw04_RefillTimes.j1 kj9 l0 a2 a3 a4 (t744 != bt747.2)) else (waterhourlaw04_RefillTimes.j1 kj9 l0 a2 a3 a4 true))) else (waterhourlaw04_RefillTimes.j1 kj9 l0 a2 a3 a4 true)) else (waterhourlaw04_RefillTimes.j1 kj9 l0 a2 a3 a4 true))) else (waterhourlaw04_RefillTimes.j1 kj9 l0 a2 a3 a4 true)))) = some r := H
      have A31 := a_ A310
      clear A310
      replace H := Option.bind_eq_some_iff.mp H
      obtain ⟨⟨t747, t748⟩, A320, H⟩ := H
      replace H : (if (t731 != t733) = true then (waterhourlaw04_RefillTimes.j1 kj9 l0 a2 a3 a4 true) else (if t732 = t734 then ((slices_Equal_int_int.f kj9 t735 t739).bind fun t751 => (if t751 = true then (if t736 = t740 then ((slices_Equal_int_int.f kj9 t743 t747).bind fun t752 => (if t752 = true then (waterhourlaw04_RefillTimes.j1 kj9 l0 a2 a3 a4 (t744 != t748)) else (waterhourlaw04_RefillTimes.j1 kj9 l0 a2 a3 a4 true))) else (waterhourlaw04_RefillTimes.j1 kj9 l0 a2 a3 a4 true)) else (waterhourlaw04_RefillTimes.j1 kj9 l0 a2 a3 a4 true))) else (waterhourlaw04_RefillTimes.j1 kj9 l0 a2 a3 a4 true))) = some r := H
      have A32 := a_ A320
      clear A320
      have HC33 := a_ H
      clear H
      go_upto_region 13 with (first | ((with_reducible refine gate_callee (f := 40) rfl ?_); refine goesL_ (some 50) rfl rfl Tryd.func40 (by kernel_rfl) rfl #[.slice A0 l0.length c0] rfl tm_ ?_; (with_reducible refine (refill_Possible.calls kj9 _ _ l0 t731 t732 _ ?side1 ?side2 A27.out).mono ?_); (case side1 => exact cl_ (Kd.C_below HR0.out HB.out)); (case side2 => exact HC0.out); rintro e w34 ⟨rfl, hb⟩; refine ⟨_, rfl, ?_⟩; have n0_ := a_ (below_step bl_ hb); clear HB; have HB := n0_; clear n0_; (try clear hb); (try clear hb2); (try clear hk); (try clear hi)) | ((with_reducible refine gate_callee (f := 50) rfl ?_); refine goesL_ (some 55) rfl rfl Tryd.func50 (by kernel_rfl) rfl #[.slice A0 l0.length c0] rfl tm_ ?_; (with_reducible refine (waterhourref04_Possible.calls kj9 _ _ l0 t733 t734 _ ?side1 ?side2 A28.out).mono ?_); (case side1 => exact cl_ (Kd.C_below HR0.out HB.out)); (case side2 => exact HC0.out); rintro e w35 ⟨rfl, hb⟩; refine ⟨_, rfl, ?_⟩; have n0_ := a_ (below_step bl_ hb); clear HB; have HB := n0_; clear n0_; (try clear hb); (try clear hb2); (try clear hk); (try clear hi)) | ((with_reducible refine gate_callee (f := 41) rfl ?_); refine goesL_ (some 60) rfl rfl Tryd.func41 (by kernel_rfl) rfl #[.slice A0 l0.length c0] rfl tm_ ?_; (with_reducible refine (refill_Earliest.calls _ _ l0 t735 t736 _ ?side1 ?side2 A29.out).mono ?_); (case side1 => exact cl_ (Kd.C_below HR0.out HB.out)); (case side2 => exact HC0.out); rintro e w36 ⟨v737, rfl, ho0, hb⟩; refine ⟨_, rfl, ?_⟩; have n0_ := a_ (Kd.R_lower (Kd.R_newM (M := fun k_ => (w.heap.size ≤ k_)) ho0 (below_size bl_) (fun k_ h_ => h_)) (below_size bl_)); have n1_ := a_ (below_step bl_ hb); clear HB; have HO738 := n0_; have HB := n1_; clear n0_ n1_; (try clear hb); (try clear hb2); (try clear hk); (try clear hi); (try clear ho0)) | ((with_reducible refine gate_callee (f := 51) rfl ?_); refine goesL_ (some 65) rfl rfl Tryd.func51 (by kernel_rfl) rfl #[.slice A0 l0.length c0] rfl tm_ ?_; (with_reducible refine (waterhourref04_Earliest.calls kj9 _ _ l0 t739 t740 _ ?side1 ?side2 A30.out).mono ?_); (case side1 => exact cl_ (Kd.C_below HR0.out HB.out)); (case side2 => exact HC0.out); rintro e w37 ⟨v741, rfl, ho0, hb⟩; refine ⟨_, rfl, ?_⟩; have n0_ := a_ (Kd.R_elder' (rl_ HO738.out) (Kd.R_base ho0) hb); have n1_ := a_ (Kd.R_lower (Kd.R_new' (Kd.R_newM (M := fun k_ => (w.heap.size ≤ k_)) ho0 (below_size bl_) (fun k_ h_ => h_)) (Kd.R_lt (rl_ HO738.out))) (below_size bl_)); have n2_ := a_ (below_step bl_ hb); clear HO738; clear HB; have HO738 := n0_; have HO742 := n1_; have HB := n2_; clear n0_ n1_ n2_; (try clear hb); (try clear hb2); (try clear hk); (try clear hi); (try clear ho0)) | ((with_reducible refine gate_callee (f := 42) rfl ?_); refine goesL_ (some 70) rfl rfl Tryd.func42 (by kernel_rfl) rfl #[.slice A0 l0.length c0] rfl tm_ ?_; (with_reducible refine (refill_Latest.calls _ _ l0 t743 t744 _ ?side1 ?side2 A31.out).mono ?_); (case side1 => exact cl_ (Kd.C_below HR0.out HB.out)); (case side2 => exact HC0.out); rintro e w38 ⟨v745, rfl, ho0, hb⟩; refine ⟨_, rfl, ?_⟩; have n0_ := a_ (Kd.R_elder' (rl_ HO738.out) (Kd.R_base ho0) hb); have n1_ := a_ (Kd.R_elder' (rl_ HO742.out) (Kd.R_base ho0) hb); have n2_ := a_ (Kd.R_lower (Kd.R_new' (Kd.R_new' (Kd.R_newM (M := fun k_ => (w.heap.size ≤ k_)) ho0 (below_size bl_) (fun k_ h_ => h_)) (Kd.R_lt (rl_ HO738.out))) (Kd.R_lt (rl_ HO742.out))) (below_size bl_)); have n3_ := a_ (below_step bl_ hb); clear HO738; clear HO742; clear HB; have HO738 := n0_; have HO742 := n1_; have HO746 := n2_; have HB := n3_; clear n0_ n1_ n2_ n3_; (try clear hb); (try clear hb2); (try clear hk); (try clear hi); (try clear ho0)) | ((with_reducible refine gate_callee (f := 52) rfl ?_); refine goesL_ (some 75) rfl rfl Tryd.func52 (by kernel_rfl) rfl #[.slice A0 l0.length c0] rfl tm_ ?_; (with_reducible refine (waterhourref04_Latest.calls kj9 _ _ l0 t747 t748 _ ?side1 ?side2 A32.out).mono ?_); (case side1 => exact cl_ (Kd.C_below HR0.out HB.out)); (case side2 => exact HC0.out); rintro e w39 ⟨v749, rfl, ho0, hb⟩; refine ⟨_, rfl, ?_⟩; have n0_ := a_ (Kd.R_elder' (rl_ HO738.out) (Kd.R_base ho0) hb); have n1_ := a_ (Kd.R_elder' (rl_ HO742.out) (Kd.R_base ho0) hb); have n2_ := a_ (Kd.R_elder' (rl_ HO746.out) (Kd.R_base ho0) hb); have n3_ := a_ (Kd.R_lower (Kd.R_new' (Kd.R_new' (Kd.R_new' (Kd.R_newM (M := fun k_ => (w.heap.size ≤ k_)) ho0 (below_size bl_) (fun k_ h_ => h_)) (Kd.R_lt (rl_ HO738.out))) (Kd.R_lt (rl_ HO742.out))) (Kd.R_lt (rl_ HO746.out))) (below_size bl_)); have n4_ := a_ (below_step bl_ hb); clear HO738; clear HO742; clear HO746; clear HB; have HO738 := n0_; have HO742 := n1_; have HO746 := n2_; have HO750 := n3_; have HB := n4_; clear n0_ n1_ n2_ n3_ n4_; (try clear hb); (try clear hb2); (try clear hk); (try clear hi); (try clear ho0)))
      (try simp only [Act.put, List.setIfInBounds_toArray, List.set_cons_zero, List.set_cons_succ])
      go_cut [107] (fun v107 wc => ∃ (kq : Nat) (x107_32 : Bool), v107 = .bool x107_32 ∧ Aside0 (waterhourlaw04_RefillTimes.j1 kq l0 a2 a3 a4 x107_32 = some r) ∧ Aside0 (kq ≤ kj9) ∧ Aside0 (Below w.heap.size w wc))
      case first =>
       have H := HC33.out
       clear HC33
       by_cases c40 : (t731 != t733) = true
       ·rw [if_pos c40] at H
        have c40b0 : (t731 != t733) = true := c40
        (try (have c40b1 : decide (t731 = t733) = false := by simpa using c40))
        (try (have c40b2 : (t731 == t733) = false := by simpa using c40))
        (try (have c40b3 : ¬ (t731 = t733) := by simpa using c40))
        clear c40
        (first | rw [c40b0] | (simp only [i64_w, i32_w]; rw [c40b0]) | skip)
        have H' := a_ H
        clear H
        go_wp2
        go_meet
        case rel => exact ⟨_, (true), (by first | rfl | (simp; done) | (simp [*]; done)), H', ⟨by have := HJ9.out; first | omega | exact Nat.le_refl _⟩, ⟨bl_⟩⟩
       ·rw [if_neg c40] at H
        have c40b0 : (t731 != t733) = false := by simpa using c40
        (try (have c40b1 : decide (t731 = t733) = true := by simpa using c40))
        (try (have c40b2 : (t731 == t733) = true := by simpa using c40))
        clear c40
        (first | rw [c40b0] | (simp only [i64_w, i32_w]; rw [c40b0]) | skip)
        by_cases c41 : t732 = t734
        ·rw [if_pos c41] at H
         have c41b0 : (t732 == t734) = true := beq_iff_eq.mpr c41
         have c41b1 : (t732 != t734) = false := bne_eq_false_iff_eq.mpr c41
         clear c41
         replace H := Option.bind_eq_some_iff.mp H
         obtain ⟨t751, A420, H⟩ := H
         replace H : (if t751 = true then (if t736 = t740 then ((slices_Equal_int_int.f kj9 t743 t747).bind fun t752 => (if t752 = true then (waterhourlaw04_RefillTimes.j1 kj9 l0 a2 a3 a4 (t744 != t748)) else (waterhourlaw04_RefillTimes.j1 kj9 l0 a2 a3 a4 true))) else (waterhourlaw04_RefillTimes.j1 kj9 l0 a2 a3 a4 true)) else (waterhourlaw04_RefillTimes.j1 kj9 l0 a2 a3 a4 true)) = some r := H
         have A42 := a_ A420
         clear A420
         by_cases c43 : t751 = true
         ·subst c43
          have H1 : (if t736 = t740 then ((slices_Equal_int_int.f kj9 t743 t747).bind fun t752 => (if t752 = true then (waterhourlaw04_RefillTimes.j1 kj9 l0 a2 a3 a4 (t744 != t748)) else (waterhourlaw04_RefillTimes.j1 kj9 l0 a2 a3 a4 true))) else (waterhourlaw04_RefillTimes.j1 kj9 l0 a2 a3 a4 true)) = some r := by rw [if_pos rfl] at H; exact H
          clear H
          have H := H1
          clear H1
          by_cases c44 : t736 = t740
          ·rw [if_pos c44] at H
           have c44b0 : (t736 == t740) = true := beq_iff_eq.mpr c44
           have c44b1 : (t736 != t740) = false := bne_eq_false_iff_eq.mpr c44
           clear c44
           replace H := Option.bind_eq_some_iff.mp H
           obtain ⟨t752, A450, H⟩ := H
           replace H : (if t752 = true then (waterhourlaw04_RefillTimes.j1 kj9 l0 a2 a3 a4 (t744 != t748)) else (waterhourlaw04_RefillTimes.j1 kj9 l0 a2 a3 a4 true)) = some r := H
           have A45 := a_ A450
           clear A450
           by_cases c46 : t752 = true
           ·subst c46
            have H1 : (waterhourlaw04_RefillTimes.j1 kj9 l0 a2 a3 a4 (t744 != t748)) = some r := by rw [if_pos rfl] at H; exact H
            clear H
            have H := H1
            clear H1
            have H' := a_ H
            clear H
            obtain ⟨Ao47, co47, eo47⟩ := Kd.R_slice HO738.out
            subst eo47
            obtain ⟨Ao48, co48, eo48⟩ := Kd.R_slice HO742.out
            subst eo48
            go_wp2_with (first | (go_at_call 22; (with_reducible refine (slices_Equal_int_int.calls kj9 _ _ t735 _ _ t739 true _ ?side1 ?side2 ?side3 ?side4 A42.out).mono ?_); (case side1 => exact cl_ ((Kd.R_reads' HO738.out).2.2)); (case side2 => exact (Kd.R_reads' HO738.out).2.1); (case side3 => exact cl_ ((Kd.R_reads' HO742.out).2.2)); (case side4 => exact (Kd.R_reads' HO742.out).2.1); rintro e w' ⟨rfl, ⟨nd, rfl⟩⟩; obtain ⟨Ao49, co49, eo49⟩ := Kd.R_slice HO746.out; subst eo49; obtain ⟨Ao50, co50, eo50⟩ := Kd.R_slice HO750.out; subst eo50) | (go_at_call 22; (with_reducible refine (slices_Equal_int_int.calls kj9 _ _ t743 _ _ t747 true _ ?side1 ?side2 ?side3 ?side4 A45.out).mono ?_); (case side1 => exact cl_ ((Kd.R_reads' HO746.out).2.2)); (case side2 => exact (Kd.R_reads' HO746.out).2.1); (case side3 => exact cl_ ((Kd.R_reads' HO750.out).2.2)); (case side4 => exact (Kd.R_reads' HO750.out).2.1); rintro e w' ⟨rfl, ⟨nd, rfl⟩⟩))
            go_meet
            case rel => exact ⟨_, ((t744 != t748)), (by first | rfl | (simp; done) | (simp [*]; done)), H', ⟨by have := HJ9.out; first | omega | exact Nat.le_refl _⟩, ⟨bl_⟩⟩
           ·replace c46 := Bool.eq_false_iff.mpr c46
            subst c46
            have H1 : (waterhourlaw04_RefillTimes.j1 kj9 l0 a2 a3 a4 true) = some r := by rw [if_neg (show ¬ (false = true) by decide)] at H; exact H
            clear H
            have H := H1
            clear H1
            have H' := a_ H
            clear H
            obtain ⟨Ao51, co51, eo51⟩ := Kd.R_slice HO738.out
            subst eo51
            obtain ⟨Ao52, co52, eo52⟩ := Kd.R_slice HO742.out
            subst eo52
            go_wp2_with (first | (go_at_call 22; (with_reducible refine (slices_Equal_int_int.calls kj9 _ _ t735 _ _ t739 true _ ?side1 ?side2 ?side3 ?side4 A42.out).mono ?_); (case side1 => exact cl_ ((Kd.R_reads' HO738.out).2.2)); (case side2 => exact (Kd.R_reads' HO738.out).2.1); (case side3 => exact cl_ ((Kd.R_reads' HO742.out).2.2)); (case side4 => exact (Kd.R_reads' HO742.out).2.1); rintro e w' ⟨rfl, ⟨nd, rfl⟩⟩; obtain ⟨Ao53, co53, eo53⟩ := Kd.R_slice HO746.out; subst eo53; obtain ⟨Ao54, co54, eo54⟩ := Kd.R_slice HO750.out; subst eo54) | (go_at_call 22; (with_reducible refine (slices_Equal_int_int.calls kj9 _ _ t743 _ _ t747 false _ ?side1 ?side2 ?side3 ?side4 A45.out).mono ?_); (case side1 => exact cl_ ((Kd.R_reads' HO746.out).2.2)); (case side2 => exact (Kd.R_reads' HO746.out).2.1); (case side3 => exact cl_ ((Kd.R_reads' HO750.out).2.2)); (case side4 => exact (Kd.R_reads' HO750.out).2.1); rintro e w' ⟨rfl, ⟨nd, rfl⟩⟩))
            go_meet
            case rel => exact ⟨_, (true), (by first | rfl | (simp; done) | (simp [*]; done)), H', ⟨by have := HJ9.out; first | omega | exact Nat.le_refl _⟩, ⟨bl_⟩⟩
          ·rw [if_neg c44] at H
           have c44b0 : (t736 == t740) = false := beq_eq_false_iff_ne.mpr c44
           have c44b1 : (t736 != t740) = true := bne_iff_ne.mpr c44
           have H' := a_ H
           clear H
           obtain ⟨Ao55, co55, eo55⟩ := Kd.R_slice HO738.out
           subst eo55
           obtain ⟨Ao56, co56, eo56⟩ := Kd.R_slice HO742.out
           subst eo56
           go_wp2_with (first | (go_at_call 22; (with_reducible refine (slices_Equal_int_int.calls kj9 _ _ t735 _ _ t739 true _ ?side1 ?side2 ?side3 ?side4 A42.out).mono ?_); (case side1 => exact cl_ ((Kd.R_reads' HO738.out).2.2)); (case side2 => exact (Kd.R_reads' HO738.out).2.1); (case side3 => exact cl_ ((Kd.R_reads' HO742.out).2.2)); (case side4 => exact (Kd.R_reads' HO742.out).2.1); rintro e w' ⟨rfl, ⟨nd, rfl⟩⟩))
           go_meet
           case rel => exact ⟨_, (true), (by first | rfl | (simp; done) | (simp [*]; done)), H', ⟨by have := HJ9.out; first | omega | exact Nat.le_refl _⟩, ⟨bl_⟩⟩
         ·replace c43 := Bool.eq_false_iff.mpr c43
          subst c43
          have H1 : (waterhourlaw04_RefillTimes.j1 kj9 l0 a2 a3 a4 true) = some r := by rw [if_neg (show ¬ (false = true) by decide)] at H; exact H
          clear H
          have H := H1
          clear H1
          have H' := a_ H
          clear H
          obtain ⟨Ao57, co57, eo57⟩ := Kd.R_slice HO738.out
          subst eo57
          obtain ⟨Ao58, co58, eo58⟩ := Kd.R_slice HO742.out
          subst eo58
          go_wp2_with (first | (go_at_call 22; (with_reducible refine (slices_Equal_int_int.calls kj9 _ _ t735 _ _ t739 false _ ?side1 ?side2 ?side3 ?side4 A42.out).mono ?_); (case side1 => exact cl_ ((Kd.R_reads' HO738.out).2.2)); (case side2 => exact (Kd.R_reads' HO738.out).2.1); (case side3 => exact cl_ ((Kd.R_reads' HO742.out).2.2)); (case side4 => exact (Kd.R_reads' HO742.out).2.1); rintro e w' ⟨rfl, ⟨nd, rfl⟩⟩))
          go_meet
          case rel => exact ⟨_, (true), (by first | rfl | (simp; done) | (simp [*]; done)), H', ⟨by have := HJ9.out; first | omega | exact Nat.le_refl _⟩, ⟨bl_⟩⟩
        ·rw [if_neg c41] at H
         have c41b0 : (t732 == t734) = false := beq_eq_false_iff_ne.mpr c41
         have c41b1 : (t732 != t734) = true := bne_iff_ne.mpr c41
         have H' := a_ H
         clear H
         go_wp2
         go_meet
         case rel => exact ⟨_, (true), (by first | rfl | (simp; done) | (simp [*]; done)), H', ⟨by have := HJ9.out; first | omega | exact Nat.le_refl _⟩, ⟨bl_⟩⟩
      case rest =>
       clear HC33
       try clear c1
       try clear c2
       try clear p2
       try clear c4
       try clear c5
       try clear c7
       try clear c9
       try clear c13
       try clear c17
       try clear c17b0
       try clear c17b1
       try clear c18
       try clear c19
       try clear c26
       try clear c40
       try clear c40b0
       try clear c40b1
       try clear c40b2
       try clear c41
       try clear c41b0
       try clear c41b1
       try clear c42
       try clear c43
       try clear c44
       try clear c44b0
       try clear c44b1
       try clear c46
       try clear c47
       try clear c48
       try clear c50
       try clear c51
       try clear c52
       try clear p2
       obtain ⟨kq, x107_32, rfl, HA, HJ32, HB⟩ := hcut
       cases kq with
       | zero => exact absurd HA.out (by simp [waterhourlaw04_RefillTimes.j1])
       | succ kj32 =>
        have H := HA.out
        clear HA
        simp only [waterhourlaw04_RefillTimes.j1] at H
        by_cases c59 : x107_32 = true
        ·subst c59
         have H1 : (some false) = some r := by rw [if_pos rfl] at H; exact H
         clear H
         have H := H1
         clear H1
         exact absurd (H.trans (congrArg some hrt.out)) (by simp)
        ·replace c59 := Bool.eq_false_iff.mpr c59
         subst c59
         have H1 : ((refill_Time.f kj32 l0 a2).bind fun bt753 => ((waterhourref04_Time.f kj32 l0 a2).bind fun bt757 => ((refill_Between.f kj32 l0 a3 a4).bind fun bt761 => ((waterhourref04_Between.f kj32 l0 a3 a4).bind fun bt765 => (if (bt753.1 == bt757.1 && (bt753.2.1 == bt757.2.1)) = true then (if bt753.2.2 = bt757.2.2 then (if (bt761.1 == bt765.1 && (bt761.2.1 == bt765.2.1)) = true then (some (bt761.2.2 == bt765.2.2)) else (some false)) else (some false)) else (some false)))))) = some r := by rw [if_neg (show ¬ (false = true) by decide)] at H; exact H
         clear H
         have H := H1
         clear H1
         replace H := Option.bind_eq_some_iff.mp H
         obtain ⟨⟨t753, t754, t755⟩, A600, H⟩ := H
         replace H : ((waterhourref04_Time.f kj32 l0 a2).bind fun bt757 => ((refill_Between.f kj32 l0 a3 a4).bind fun bt761 => ((waterhourref04_Between.f kj32 l0 a3 a4).bind fun bt765 => (if (t753 == bt757.1 && (t754 == bt757.2.1)) = true then (if t755 = bt757.2.2 then (if (bt761.1 == bt765.1 && (bt761.2.1 == bt765.2.1)) = true then (some (bt761.2.2 == bt765.2.2)) else (some false)) else (some false)) else (some false))))) = some r := H
         have A60 := a_ A600
         clear A600
         replace H := Option.bind_eq_some_iff.mp H
         obtain ⟨⟨t757, t758, t759⟩, A610, H⟩ := H
         replace H : ((refill_Between.f kj32 l0 a3 a4).bind fun bt761 => ((waterhourref04_Between.f kj32 l0 a3 a4).bind fun bt765 => (if (t753 == t757 && (t754 == t758)) = true then (if t755 = t759 then (if (bt761.1 == bt765.1 && (bt761.2.1 == bt765.2.1)) = true then (some (bt761.2.2 == bt765.2.2)) else (some false)) else (some false)) else (some false)))) = some r := H
         have A61 := a_ A610
         clear A610
         replace H := Option.bind_eq_some_iff.mp H
         obtain ⟨⟨t761, t762, t763⟩, A620, H⟩ := H
         replace H : ((waterhourref04_Between.f kj32 l0 a3 a4).bind fun bt765 => (if (t753 == t757 && (t754 == t758)) = true then (if t755 = t759 then (if (t761 == bt765.1 && (t762 == bt765.2.1)) = true then (some (t763 == bt765.2.2)) else (some false)) else (some false)) else (some false))) = some r := H
         have A62 := a_ A620
         clear A620
         replace H := Option.bind_eq_some_iff.mp H
         obtain ⟨⟨t765, t766, t767⟩, A630, H⟩ := H
         replace H : (if (t753 == t757 && (t754 == t758)) = true then (if t755 = t759 then (if (t761 == t765 && (t762 == t766)) = true then (some (t763 == t767)) else (some false)) else (some false)) else (some false)) = some r := H
         have A63 := a_ A630
         clear A630
         by_cases c64 : (t753 == t757 && (t754 == t758)) = true
         ·rw [if_pos c64] at H
          have c64b0 : (t753 == t757 && (t754 == t758)) = true := c64
          (try (have c64b1 : decide (t753 = t757 && (t754 == t758)) = true := by simpa using c64))
          (try (have c64b2 : (t753 == t757 && (t754 == t758)) = true := by simpa using c64))
          clear c64
          by_cases c65 : t755 = t759
          ·rw [if_pos c65] at H
           have c65b0 : (t755 == t759) = true := beq_iff_eq.mpr c65
           have c65b1 : (t755 != t759) = false := bne_eq_false_iff_eq.mpr c65
           clear c65
           by_cases c66 : (t761 == t765 && (t762 == t766)) = true
           ·rw [if_pos c66] at H
            have c66b0 : (t761 == t765 && (t762 == t766)) = true := c66
            (try (have c66b1 : decide (t761 = t765 && (t762 == t766)) = true := by simpa using c66))
            (try (have c66b2 : (t761 == t765 && (t762 == t766)) = true := by simpa using c66))
            clear c66
            obtain rfl := Option.some.inj H
            go_wp2_with (first | ((with_reducible refine gate_callee (f := 43) rfl ?_); refine goesL_ (some 111) rfl rfl Tryd.func43 (by kernel_rfl) rfl #[.slice A0 l0.length c0, .int .i64 a2] rfl tm_ ?_; (with_reducible refine (refill_Time.calls kj32 _ _ l0 a2 t753 t754 t755 _ ?side1 ?side2 A60.out).mono ?_); (case side1 => exact cl_ (Kd.C_below HR0.out HB.out)); (case side2 => exact HC0.out); rintro e w67 ⟨rfl, hb⟩; refine ⟨_, rfl, ?_⟩; have n0_ := a_ (below_step bl_ hb); clear HB; have HB := n0_; clear n0_; (try clear hb); (try clear hb2); (try clear hk); (try clear hi)) | ((with_reducible refine gate_dst (N := 23) rfl ?_); refine box_event ?hg (N := 23) ?hd (cs := #[.int .i64 0, .int .i64 0]) (t := 49) ?hr ?_; (case hd => rfl); (case hg => rfl); (case hr => first | (go_simp; done) | (go_simp; rfl)); intro gb756 hg w68 hbox hb; have n0_ := a_ (below_step bl_ hb); have n1_ := a_ (hbox); have n2_ := a_ ((bz_ (w := w) hg)); have n3_ := a_ ((bz_ (w := w) hg)); clear HB; have HB := n0_; have BK756 := n1_; have GW756 := n2_; have GE756 := n3_; clear n0_ n1_ n2_ n3_; clear hb hbox hg; have hcz69_0 : w68.cell? ⟨gb756, 0, none⟩ = some (.int .i64 0) := (blk_cell BK756.out 0).trans rfl; have hcz69_1 : w68.cell? ⟨gb756, 1, none⟩ = some (.int .i64 0) := (blk_cell BK756.out 1).trans rfl; have hfz69_0 := blk_frozen BK756.out 0; have hfz69_1 := blk_frozen BK756.out 1) | ((with_reducible refine gate_callee (f := 53) rfl ?_); refine goesL_ (some 117) rfl rfl Tryd.func53 (by kernel_rfl) rfl #[.slice A0 l0.length c0, .int .i64 a2] rfl tm_ ?_; (with_reducible refine (waterhourref04_Time.calls kj32 _ _ l0 a2 t757 t758 t759 _ ?side1 ?side2 A61.out).mono ?_); (case side1 => exact Kd.C_below HR0.out bl_); (case side2 => exact HC0.out); rintro e w70 ⟨rfl, hb⟩; refine ⟨_, rfl, ?_⟩; have n0_ := a_ (blk_below (g := gb756) (o := .cells #[.int .i64 t753, .int .i64 t754] 49 (0, 0)) (by (with_reducible repeat (first | refine blk_drewN ?_ _ | refine blk_drew ?_ | refine blk_alloc ?_ _)); refine blk_put (cs := #[.int .i64 t753, .int .i64 0]) ?_ 1 _ rfl; (with_reducible repeat (first | refine blk_drewN ?_ _ | refine blk_drew ?_ | refine blk_alloc ?_ _)); refine blk_put (cs := #[.int .i64 0, .int .i64 0]) ?_ 0 _ rfl; (with_reducible repeat (first | refine blk_drewN ?_ _ | refine blk_drew ?_ | refine blk_alloc ?_ _)); exact BK756.out) hb); have n1_ := a_ (below_step bl_ hb); clear BK756; clear HB; have BK756 := n0_; have HB := n1_; clear n0_ n1_; (try clear hb); (try clear hb2); (try clear hk); (try clear hi)) | ((with_reducible refine gate_dst (N := 24) rfl ?_); refine box_event ?hg (N := 24) ?hd (cs := #[.int .i64 0, .int .i64 0]) (t := 49) ?hr ?_; (case hd => rfl); (case hg => rfl); (case hr => first | (go_simp; done) | (go_simp; rfl)); intro gb760 hg w71 hbox hb; have n0_ := a_ (bb_ BK756.out hb); have n1_ := a_ (below_step bl_ hb); have n2_ := a_ (hbox); have n3_ := a_ ((bz_ (w := w) hg)); have n4_ := a_ ((bz_ (w := w) hg)); have n5_ := a_ ((nl_ BK756.out hg)); have n6_ := a_ ((ng_ BK756.out hg)); clear BK756; clear HB; have BK756 := n0_; have HB := n1_; have BK760 := n2_; have GW760 := n3_; have GE760 := n4_; have NB756_760 := n5_; have NB760_756 := n6_; clear n0_ n1_ n2_ n3_ n4_ n5_ n6_; clear hb hbox hg; have hnb72 := NB760_756.out; have hnc72 := NB756_760.out; have hcz73_0 : w71.cell? ⟨gb760, 0, none⟩ = some (.int .i64 0) := (blk_cell BK760.out 0).trans rfl; have hcz73_1 : w71.cell? ⟨gb760, 1, none⟩ = some (.int .i64 0) := (blk_cell BK760.out 1).trans rfl; have hfz73_0 := blk_frozen BK760.out 0; have hfz73_1 := blk_frozen BK760.out 1) | ((with_reducible refine gate_callee (f := 44) rfl ?_); refine goesL_ (some 124) rfl rfl Tryd.func44 (by kernel_rfl) rfl #[.slice A0 l0.length c0, .int .i64 a3, .int .i64 a4] rfl tm_ ?_; (with_reducible refine (refill_Between.calls kj32 _ _ l0 a3 a4 t761 t762 t763 _ ?side1 ?side2 A62.out).mono ?_); (case side1 => exact Kd.C_below HR0.out bl_); (case side2 => exact HC0.out); rintro e w74 ⟨rfl, hb⟩; refine ⟨_, rfl, ?_⟩; have n0_ := a_ (blk_below (g := gb756) (o := .cells #[.int .i64 t753, .int .i64 t754] 49 (0, 0)) (by (with_reducible repeat (first | refine blk_drewN ?_ _ | refine blk_drew ?_ | refine blk_alloc ?_ _)); refine blk_far ?_ NB756_760.out _; (with_reducible repeat (first | refine blk_drewN ?_ _ | refine blk_drew ?_ | refine blk_alloc ?_ _)); refine blk_far ?_ NB756_760.out _; (with_reducible repeat (first | refine blk_drewN ?_ _ | refine blk_drew ?_ | refine blk_alloc ?_ _)); exact BK756.out) hb); have n1_ := a_ (blk_below (g := gb760) (o := .cells #[.int .i64 t757, .int .i64 t758] 49 (0, 0)) (by (with_reducible repeat (first | refine blk_drewN ?_ _ | refine blk_drew ?_ | refine blk_alloc ?_ _)); refine blk_put (cs := #[.int .i64 t757, .int .i64 0]) ?_ 1 _ rfl; (with_reducible repeat (first | refine blk_drewN ?_ _ | refine blk_drew ?_ | refine blk_alloc ?_ _)); refine blk_put (cs := #[.int .i64 0, .int .i64 0]) ?_ 0 _ rfl; (with_reducible repeat (first | refine blk_drewN ?_ _ | refine blk_drew ?_ | refine blk_alloc ?_ _)); exact BK760.out) hb); have n2_ := a_ (below_step bl_ hb); clear BK756; clear BK760; clear HB; have BK756 := n0_; have BK760 := n1_; have HB := n2_; clear n0_ n1_ n2_; (try clear hb); (try clear hb2); (try clear hk); (try clear hi)) | ((with_reducible refine gate_dst (N := 25) rfl ?_); refine box_event ?hg (N := 25) ?hd (cs := #[.int .i64 0, .int .i64 0]) (t := 49) ?hr ?_; (case hd => rfl); (case hg => rfl); (case hr => first | (go_simp; done) | (go_simp; rfl)); intro gb764 hg w75 hbox hb; have n0_ := a_ (bb_ BK756.out hb); have n1_ := a_ (bb_ BK760.out hb); have n2_ := a_ (below_step bl_ hb); have n3_ := a_ (hbox); have n4_ := a_ ((bz_ (w := w) hg)); have n5_ := a_ ((bz_ (w := w) hg)); have n6_ := a_ ((nl_ BK756.out hg)); have n7_ := a_ ((ng_ BK756.out hg)); have n8_ := a_ ((nl_ BK760.out hg)); have n9_ := a_ ((ng_ BK760.out hg)); clear BK756; clear BK760; clear HB; have BK756 := n0_; have BK760 := n1_; have HB := n2_; have BK764 := n3_; have GW764 := n4_; have GE764 := n5_; have NB756_764 := n6_; have NB764_756 := n7_; have NB760_764 := n8_; have NB764_760 := n9_; clear n0_ n1_ n2_ n3_ n4_ n5_ n6_ n7_ n8_ n9_; clear hb hbox hg; have hnb76 := NB764_756.out; have hnc76 := NB756_764.out; have hnb77 := NB764_760.out; have hnc77 := NB760_764.out; have hcz78_0 : w75.cell? ⟨gb764, 0, none⟩ = some (.int .i64 0) := (blk_cell BK764.out 0).trans rfl; have hcz78_1 : w75.cell? ⟨gb764, 1, none⟩ = some (.int .i64 0) := (blk_cell BK764.out 1).trans rfl; have hfz78_0 := blk_frozen BK764.out 0; have hfz78_1 := blk_frozen BK764.out 1) | ((with_reducible refine gate_callee (f := 54) rfl ?_); refine goesL_ (some 131) rfl rfl Tryd.func54 (by kernel_rfl) rfl #[.slice A0 l0.length c0, .int .i64 a3, .int .i64 a4] rfl tm_ ?_; (with_reducible refine (waterhourref04_Between.calls kj32 _ _ l0 a3 a4 t765 t766 t767 _ ?side1 ?side2 A63.out).mono ?_); (case side1 => exact Kd.C_below HR0.out bl_); (case side2 => exact HC0.out); rintro e w79 ⟨rfl, hb⟩; refine ⟨_, rfl, ?_⟩; have n0_ := a_ (blk_below (g := gb756) (o := .cells #[.int .i64 t753, .int .i64 t754] 49 (0, 0)) (by (with_reducible repeat (first | refine blk_drewN ?_ _ | refine blk_drew ?_ | refine blk_alloc ?_ _)); refine blk_far ?_ NB756_764.out _; (with_reducible repeat (first | refine blk_drewN ?_ _ | refine blk_drew ?_ | refine blk_alloc ?_ _)); refine blk_far ?_ NB756_764.out _; (with_reducible repeat (first | refine blk_drewN ?_ _ | refine blk_drew ?_ | refine blk_alloc ?_ _)); exact BK756.out) hb); have n1_ := a_ (blk_below (g := gb760) (o := .cells #[.int .i64 t757, .int .i64 t758] 49 (0, 0)) (by (with_reducible repeat (first | refine blk_drewN ?_ _ | refine blk_drew ?_ | refine blk_alloc ?_ _)); refine blk_far ?_ NB760_764.out _; (with_reducible repeat (first | refine blk_drewN ?_ _ | refine blk_drew ?_ | refine blk_alloc ?_ _)); refine blk_far ?_ NB760_764.out _; (with_reducible repeat (first | refine blk_drewN ?_ _ | refine blk_drew ?_ | refine blk_alloc ?_ _)); exact BK760.out) hb); have n2_ := a_ (blk_below (g := gb764) (o := .cells #[.int .i64 t761, .int .i64 t762] 49 (0, 0)) (by (with_reducible repeat (first | refine blk_drewN ?_ _ | refine blk_drew ?_ | refine blk_alloc ?_ _)); refine blk_put (cs := #[.int .i64 t761, .int .i64 0]) ?_ 1 _ rfl; (with_reducible repeat (first | refine blk_drewN ?_ _ | refine blk_drew ?_ | refine blk_alloc ?_ _)); refine blk_put (cs := #[.int .i64 0, .int .i64 0]) ?_ 0 _ rfl; (with_reducible repeat (first | refine blk_drewN ?_ _ | refine blk_drew ?_ | refine blk_alloc ?_ _)); exact BK764.out) hb); have n3_ := a_ (below_step bl_ hb); clear BK756; clear BK760; clear BK764; clear HB; have BK756 := n0_; have BK760 := n1_; have BK764 := n2_; have HB := n3_; clear n0_ n1_ n2_ n3_; (try clear hb); (try clear hb2); (try clear hk); (try clear hi)) | ((with_reducible refine gate_dst (N := 26) rfl ?_); refine box_event ?hg (N := 26) ?hd (cs := #[.int .i64 0, .int .i64 0]) (t := 49) ?hr ?_; (case hd => rfl); (case hg => rfl); (case hr => first | (go_simp; done) | (go_simp; rfl)); intro gb768 hg w80 hbox hb; have n0_ := a_ (bb_ BK756.out hb); have n1_ := a_ (bb_ BK760.out hb); have n2_ := a_ (bb_ BK764.out hb); have n3_ := a_ (below_step bl_ hb); have n4_ := a_ (hbox); have n5_ := a_ ((bz_ (w := w) hg)); have n6_ := a_ ((bz_ (w := w) hg)); have n7_ := a_ ((nl_ BK756.out hg)); have n8_ := a_ ((ng_ BK756.out hg)); have n9_ := a_ ((nl_ BK760.out hg)); have n10_ := a_ ((ng_ BK760.out hg)); have n11_ := a_ ((nl_ BK764.out hg)); have n12_ := a_ ((ng_ BK764.out hg)); clear BK756; clear BK760; clear BK764; clear HB; have BK756 := n0_; have BK760 := n1_; have BK764 := n2_; have HB := n3_; have BK768 := n4_; have GW768 := n5_; have GE768 := n6_; have NB756_768 := n7_; have NB768_756 := n8_; have NB760_768 := n9_; have NB768_760 := n10_; have NB764_768 := n11_; have NB768_764 := n12_; clear n0_ n1_ n2_ n3_ n4_ n5_ n6_ n7_ n8_ n9_ n10_ n11_ n12_; clear hb hbox hg; have hnb81 := NB768_756.out; have hnc81 := NB756_768.out; have hnb82 := NB768_760.out; have hnc82 := NB760_768.out; have hnb83 := NB768_764.out; have hnc83 := NB764_768.out; have hcz84_0 : w80.cell? ⟨gb768, 0, none⟩ = some (.int .i64 0) := (blk_cell BK768.out 0).trans rfl; have hcz84_1 : w80.cell? ⟨gb768, 1, none⟩ = some (.int .i64 0) := (blk_cell BK768.out 1).trans rfl; have hfz84_0 := blk_frozen BK768.out 0; have hfz84_1 := blk_frozen BK768.out 1; have hcz85_0 : w80.cell? ⟨gb756, 0, none⟩ = some (.int .i64 t753) := (blk_cell BK756.out 0).trans rfl; have hcz85_1 : w80.cell? ⟨gb756, 1, none⟩ = some (.int .i64 t754) := (blk_cell BK756.out 1).trans rfl; have hfz85_0 := blk_frozen BK756.out 0; have hfz85_1 := blk_frozen BK756.out 1; have hcz86_0 : w80.cell? ⟨gb760, 0, none⟩ = some (.int .i64 t757) := (blk_cell BK760.out 0).trans rfl; have hcz86_1 : w80.cell? ⟨gb760, 1, none⟩ = some (.int .i64 t758) := (blk_cell BK760.out 1).trans rfl; have hfz86_0 := blk_frozen BK760.out 0; have hfz86_1 := blk_frozen BK760.out 1; have hcz87_0 : w80.cell? ⟨gb764, 0, none⟩ = some (.int .i64 t761) := (blk_cell BK764.out 0).trans rfl; have hcz87_1 : w80.cell? ⟨gb764, 1, none⟩ = some (.int .i64 t762) := (blk_cell BK764.out 1).trans rfl; have hfz87_0 := blk_frozen BK764.out 0; have hfz87_1 := blk_frozen BK764.out 1))
            go_ret
            exact ⟨by first | rfl | (simp [errW_none, errW_some] <;> rfl) | (simp [*, errW_none, errW_some] <;> rfl), bl_⟩
           ·rw [if_neg c66] at H
            have c66b0 : (t761 == t765 && (t762 == t766)) = false := by simpa using c66
            (try (have c66b1 : decide (t761 = t765 && (t762 == t766)) = false := by simpa using c66))
            (try (have c66b2 : (t761 == t765 && (t762 == t766)) = false := by simpa using c66))
            (try (have c66b3 : ¬ (t761 = t765 && (t762 == t766)) := by simpa using c66))
            clear c66
            exact absurd (H.trans (congrArg some hrt.out)) (by simp)
          ·rw [if_neg c65] at H
           have c65b0 : (t755 == t759) = false := beq_eq_false_iff_ne.mpr c65
           have c65b1 : (t755 != t759) = true := bne_iff_ne.mpr c65
           exact absurd (H.trans (congrArg some hrt.out)) (by simp)
         ·rw [if_neg c64] at H
          have c64b0 : (t753 == t757 && (t754 == t758)) = false := by simpa using c64
          (try (have c64b1 : decide (t753 = t757 && (t754 == t758)) = false := by simpa using c64))
          (try (have c64b2 : (t753 == t757 && (t754 == t758)) = false := by simpa using c64))
          (try (have c64b3 : ¬ (t753 = t757 && (t754 == t758)) := by simpa using c64))
          clear c64
          exact absurd (H.trans (congrArg some hrt.out)) (by simp)
  ·replace c9 := Bool.eq_false_iff.mpr c9
   subst c9
   have H1 : (some true) = some r := by rw [if_neg (show ¬ (false = true) by decide)] at H; exact H
   clear H
   have H := H1
   clear H1
   obtain rfl := Option.some.inj H
   go_enter Tryd.func13, Tryd.ntmps13
   go_wp2_with (first | ((with_reducible refine gate_callee (f := 18) rfl ?_); refine goesL_ (some 27) rfl rfl Tryd.func18 (by kernel_rfl) rfl #[] rfl tm_ ?_; (with_reducible refine (law_sane.calls  true _ ?side1 A6.out).mono ?_); (case side1 => exact TabB.below HT.out bl_); rintro e w88 ⟨rfl, hb⟩; refine ⟨_, rfl, ?_⟩; have n0_ := a_ (Kd.V_below (vl_ HO1.out) hb); have n1_ := a_ (below_step bl_ hb); clear HO1; clear HB; have HO1 := n0_; have HB := n1_; clear n0_ n1_; (try clear hb); (try clear hb2); (try clear hk); (try clear hi)) | ((with_reducible refine gate_dst (N := 31) rfl ?_); refine Kd.N_lit (Kd.slice 3 (Kd.int .i64)) _ 26 ?hg (N' := 31) ?hd (xs := ([l1] : List (List Int))) (inner := [.slice A1 l1.length c1]) (ok := (fun k_ => (P1_ k_ ∨ w.heap.size ≤ k_))) (okp := (fun k_ => (P1_ k_ ∨ w.heap.size ≤ k_))) ?hr ?hp (fun _ hk => hk) ((show ∀ k_, w88.heap.size ≤ k_ → (fun k_ => (P1_ k_ ∨ w.heap.size ≤ k_)) k_ from fun k_ hk => (.inr (Nat.le_trans (below_size bl_) hk))) _ (Nat.le_refl _)) (Below.refl _ _) (Nat.le_refl _) (by simp) ?_; (case hd => rfl); (case hg => rfl); (case hr => first | (go_simp; done) | (go_simp; rfl)); (case hp => exact (Reps.one (show Kd.FK (Kd.slice 3 (Kd.int .i64)) _ _ l1 [.slice A1 l1.length c1] from (Kd.FK_slice_mk (Kd.V_reads' (Kd.V_mono (ok' := (fun k_ => (P1_ k_ ∨ w.heap.size ≤ k_))) (HO1.out) (fun k_ hk => hk))).2.1 (Kd.V_F (Kd.V_mono (ok' := (fun k_ => (P1_ k_ ∨ w.heap.size ≤ k_))) (HO1.out) (fun k_ hk => hk))))) (Reps.none _ _))); intro v724 w89 ho90 hb hg_ hnew_; clear hg_ hnew_; (first | rw [← Ny723.out] at ho90 | (simp only [Int.reduceToNat] at ho90; rw [← Ny723.out] at ho90)); have n0_ := a_ (Kd.V_elder' (vl_ HO1.out) (Kd.N_base ho90) hb); have n1_ := a_ (Kd.N_lower ho90 (below_size bl_)); have n2_ := a_ (below_step bl_ hb); clear HO1; clear HB; have HO1 := n0_; have HO725 := n1_; have HB := n2_; clear n0_ n1_ n2_; clear hb ho90; obtain ⟨Ao91, co91, eo91⟩ := Kd.N_slice HO725.out; subst eo91) | ((with_reducible refine gate_callee (f := 19) rfl ?_); refine goesL_ (some 32) rfl rfl Tryd.func19 (by kernel_rfl) rfl #[.slice A0 l0.length c0, .slice Ao91 y723.length co91] rfl tm_ ?_; (with_reducible refine (waterhourlaw04_few.calls k _ _ l0 _ _ y723 false _ ?side1 ?side2 ?side3 ?side4 A8.out).mono ?_); (case side1 => exact cl_ (Kd.C_below HR0.out HB.out)); (case side2 => exact HC0.out); (case side3 => exact cl_ ((Kd.N_reads' HO725.out).2.2)); (case side4 => exact (Kd.N_reads' HO725.out).2.1); rintro e w' ⟨rfl, ⟨nd, rfl⟩⟩; refine ⟨_, rfl, ?_⟩))
   go_ret
   exact ⟨by first | rfl | (simp [errW_none, errW_some] <;> rfl) | (simp [*, errW_none, errW_some] <;> rfl), bl_⟩
 ·replace c7 := Bool.eq_false_iff.mpr c7
  subst c7
  have H1 : (some false) = some r := by rw [if_neg (show ¬ (false = true) by decide)] at H; exact H
  clear H
  have H := H1
  clear H1
  exact absurd (H.trans (congrArg some hrt.out)) (by simp)

end Go.Proofs.YtgiihjcpgjpkcaaDoor.Q
