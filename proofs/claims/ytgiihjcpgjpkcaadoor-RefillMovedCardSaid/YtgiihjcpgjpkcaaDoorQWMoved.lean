/- Contracts of functions of the given program: each Go function as a plain Lean function (name.f) and the proof that its call answers just so, for every reading of its arguments. Written by the session's program wip/xprint.py out of the translation. -/
import Derived.Test.YtgiihjcpgjpkcaaDoorQ0
import Derived.Test.YtgiihjcpgjpkcaaDoorQC
import Derived.Test.YtgiihjcpgjpkcaaDoorQE
import Derived.Test.YtgiihjcpgjpkcaaDoorQF
import Derived.Test.YtgiihjcpgjpkcaaDoorQO
import Derived.Test.YtgiihjcpgjpkcaaDoorHClone
import Derived.Test.YtgiihjcpgjpkcaaDoorHProof
import Derived.Test.YtgiihjcpgjpkcaaDoorHSane
namespace Go.Proofs.YtgiihjcpgjpkcaaDoor.Q
open Go.RowKit Go.Proofs.YtgiihjcpgjpkcaaDoorW.PrintWords Go.Proofs.YtgiihjcpgjpkcaaDoorW.PrintLast Go.Proofs.YtgiihjcpgjpkcaaDoorW.PrintMore
attribute [local go_sem] max2_int min2_int max_two min_two max_three min_three max_four min_four   -- for this text's walks alone
set_option linter.unusedVariables false
set_option linter.unusedSimpArgs false

attribute [local go_sem high] eqA49
/-! ### waterhourlaw04_RefillMoved: function 12 -/
mutual
def waterhourlaw04_RefillMoved.j0 : Nat → List (S51) → Int → Int → Int → Int → Bool → Option (Bool)
 | 0, _, _, _, _, _, _ => none
 | k + 1, x0, x1, x2, x3, x4, x50 => if x50 = true then (some true) else ((slices_CloneDay.f x0).bind fun t649 => (if 0 < (x0.length : Int) then (if 0 < (t649.length : Int) then (waterhourlaw04_RefillMoved.l0 k x0 x1 x2 x3 x4 (t649.set (0 : Int).toNat (⟨(⟨wrap64 (((rd_T51 x0 0).f0.f0) + x1), wrap64 (((rd_T51 x0 0).f0.f1) + x1)⟩ : S49), (⟨(rd_T51 t649 0).f1.f0, (rd_T51 t649 0).f1.f1⟩ : S49)⟩ : S51)) x0 (x0.length : Int) 0) else (none)) else (none)))
def waterhourlaw04_RefillMoved.l0 : Nat → List (S51) → Int → Int → Int → Int → List (S51) → List (S51) → Int → Int → Option (Bool)
 | 0, _, _, _, _, _, _, _, _, _ => none
 | k + 1, x0, x1, x2, x3, x4, x11, x71, x72, x73 => if x73 < x72 then (if 0 ≤ x73 then (if x73 < (x71.length : Int) then ((waterhourref04_Known.f ((rd_T51 x71 x73).f1.f0) ((rd_T51 x71 x73).f1.f1)).bind fun t657 => (if t657 = true then (if x73 < (x11.length : Int) then (waterhourlaw04_RefillMoved.l0 k x0 x1 x2 x3 x4 (x11.set (x73 : Int).toNat (⟨(⟨(rd_T51 x11 x73).f0.f0, (rd_T51 x11 x73).f0.f1⟩ : S49), (⟨wrap64 (((rd_T51 x71 x73).f1.f0) + x1), wrap64 (((rd_T51 x71 x73).f1.f1) + x1)⟩ : S49)⟩ : S51)) x71 x72 (wrap64 (x73 + 1))) else (none)) else (waterhourlaw04_RefillMoved.l0 k x0 x1 x2 x3 x4 x11 x71 x72 (wrap64 (x73 + 1))))) else (none)) else (none)) else ((waterhourref04_Valid.f k x11).bind fun t659 => (if t659 = true then ((refill_Time.f k x0 x2).bind fun bt660 => ((refill_Time.f k x11 x2).bind fun bt664 => ((refill_Proof.f x0 x2 false).bind fun bt668 => ((refill_Proof.f x11 x2 false).bind fun bt670 => ((refill_Clash.f k x0).bind fun bt672 => ((refill_Clash.f k x11).bind fun bt676 => (if bt660.2.2 = bt664.2.2 then (if bt668.2 = bt670.2 then (if bt672.2.2.2 = 0 then (if bt676.2.2.2 = 0 then (if (bt672.2.2.1 != bt676.2.2.1) = true then (waterhourlaw04_RefillMoved.j2 k x0 x1 x3 x4 x11 bt660.2.2 bt672.2.2.1 true bt660.1 bt660.2.1 bt664.1 bt664.2.1) else (if bt672.1 = bt676.1 then (if bt672.2.1 = bt676.2.1 then (waterhourlaw04_RefillMoved.j2 k x0 x1 x3 x4 x11 bt660.2.2 bt672.2.2.1 (bt668.1 != bt670.1) bt660.1 bt660.2.1 bt664.1 bt664.2.1) else (waterhourlaw04_RefillMoved.j2 k x0 x1 x3 x4 x11 bt660.2.2 bt672.2.2.1 true bt660.1 bt660.2.1 bt664.1 bt664.2.1)) else (waterhourlaw04_RefillMoved.j2 k x0 x1 x3 x4 x11 bt660.2.2 bt672.2.2.1 true bt660.1 bt660.2.1 bt664.1 bt664.2.1))) else (waterhourlaw04_RefillMoved.j2 k x0 x1 x3 x4 x11 bt660.2.2 bt672.2.2.1 true bt660.1 bt660.2.1 bt664.1 bt664.2.1)) else (waterhourlaw04_RefillMoved.j2 k x0 x1 x3 x4 x11 bt660.2.2 bt672.2.2.1 true bt660.1 bt660.2.1 bt664.1 bt664.2.1)) else (waterhourlaw04_RefillMoved.j2 k x0 x1 x3 x4 x11 bt660.2.2 bt672.2.2.1 true bt660.1 bt660.2.1 bt664.1 bt664.2.1)) else (waterhourlaw04_RefillMoved.j2 k x0 x1 x3 x4 x11 bt660.2.2 bt672.2.2.1 true bt660.1 bt660.2.1 bt664.1 bt664.2.1)))))))) else (some true)))
def waterhourlaw04_RefillMoved.j2 : Nat → List (S51) → Int → Int → Int → List (S51) → Int → Bool → Bool → Int → Int → Int → Int → Option (Bool)
 | 0, _, _, _, _, _, _, _, _, _, _, _, _ => none
 | k + 1, x0, x1, x3, x4, x11, x15, x24, x173, x664000, x664001, x668000, x668001 => if x173 = true then (some false) else (if x15 = 0 then (if (!(x668000 == (wrap64 (x664000 + x1))) || (!(x668001 == (wrap64 (x664001 + x1))))) = true then (some false) else ((waterhourref04_Event.f x0 x3 0).bind fun t680 => (if t680 = true then ((waterhourref04_Event.f x0 x4 0).bind fun t681 => (if t681 = true then (waterhourlaw04_RefillMoved.j3 k x0 x3 x4 x11 (decide (x3 ≥ x4))) else (waterhourlaw04_RefillMoved.j3 k x0 x3 x4 x11 true))) else (waterhourlaw04_RefillMoved.j3 k x0 x3 x4 x11 true)))) else (if x15 = 31 then (some x24) else (some false)))
def waterhourlaw04_RefillMoved.j3 : Nat → List (S51) → Int → Int → List (S51) → Bool → Option (Bool)
 | 0, _, _, _, _, _ => none
 | k + 1, x0, x3, x4, x11, x206 => if x206 = true then (some true) else ((refill_Between.f k x0 x3 x4).bind fun bt682 => ((refill_Between.f k x11 x3 x4).bind fun bt686 => (if bt682.2.2 = 0 then (if bt686.2.2 = 0 then (some (bt682.1 == bt686.1 && (bt682.2.1 == bt686.2.1))) else (some false)) else (some false))))
end
def waterhourlaw04_RefillMoved.f (k : Nat) (l0 : List (S51)) (a1 : Int) (a2 : Int) (a3 : Int) (a4 : Int) : Option (Bool) := (law_sane.f).bind fun t646 => (if t646 = true then ((waterhourref04_Valid.f k l0).bind fun t647 => (if t647 = true then (if a1 < (-524288) then (waterhourlaw04_RefillMoved.j0 k l0 a1 a2 a3 a4 true) else (if a1 > 524288 then (waterhourlaw04_RefillMoved.j0 k l0 a1 a2 a3 a4 true) else ((waterhourref04_Event.f l0 a2 0).bind fun t648 => (waterhourlaw04_RefillMoved.j0 k l0 a1 a2 a3 a4 (!t648))))) else (waterhourlaw04_RefillMoved.j0 k l0 a1 a2 a3 a4 true))) else (some false))
theorem waterhourlaw04_RefillMoved.mono_l : ∀ k, (∀ y0 y1 y2 y3 y4 y5, LeO (waterhourlaw04_RefillMoved.j0 k y0 y1 y2 y3 y4 y5) (waterhourlaw04_RefillMoved.j0 (k + 1) y0 y1 y2 y3 y4 y5)) ∧ (∀ y0 y1 y2 y3 y4 y5 y6 y7 y8, LeO (waterhourlaw04_RefillMoved.l0 k y0 y1 y2 y3 y4 y5 y6 y7 y8) (waterhourlaw04_RefillMoved.l0 (k + 1) y0 y1 y2 y3 y4 y5 y6 y7 y8)) ∧ (∀ y0 y1 y2 y3 y4 y5 y6 y7 y8 y9 y10 y11, LeO (waterhourlaw04_RefillMoved.j2 k y0 y1 y2 y3 y4 y5 y6 y7 y8 y9 y10 y11) (waterhourlaw04_RefillMoved.j2 (k + 1) y0 y1 y2 y3 y4 y5 y6 y7 y8 y9 y10 y11)) ∧ (∀ y0 y1 y2 y3 y4, LeO (waterhourlaw04_RefillMoved.j3 k y0 y1 y2 y3 y4) (waterhourlaw04_RefillMoved.j3 (k + 1) y0 y1 y2 y3 y4))
 | 0 => ⟨fun _ _ _ _ _ _ r h => by simp [waterhourlaw04_RefillMoved.j0] at h, fun _ _ _ _ _ _ _ _ _ r h => by simp [waterhourlaw04_RefillMoved.l0] at h, fun _ _ _ _ _ _ _ _ _ _ _ _ r h => by simp [waterhourlaw04_RefillMoved.j2] at h, fun _ _ _ _ _ r h => by simp [waterhourlaw04_RefillMoved.j3] at h⟩
 | k + 1 => by
  obtain ⟨ih0, ih1, ih2, ih3⟩ := waterhourlaw04_RefillMoved.mono_l k
  refine ⟨?_, ?_, ?_, ?_⟩
  ·intro y0 y1 y2 y3 y4 y5
   unfold waterhourlaw04_RefillMoved.j0
   repeat' first
   | (with_reducible exact ih0 _ _ _ _ _ _)
   | (with_reducible exact ih1 _ _ _ _ _ _ _ _ _)
   | (with_reducible exact ih2 _ _ _ _ _ _ _ _ _ _ _ _)
   | (with_reducible exact ih3 _ _ _ _ _)
   | (with_reducible exact refill_Between.mono _ _ _ _)
   | (with_reducible exact refill_Clash.mono _ _)
   | (with_reducible exact refill_Time.mono _ _ _)
   | (with_reducible exact waterhourref04_Valid.mono _ _)
   | (with_reducible exact LeO.refl _)
   | (with_reducible exact LeO.none _)
   | (with_reducible refine LeO.ite ?_ ?_)
   | (with_reducible refine LeO.bind ?_ (fun _ => ?_))
   | exact ih0 _ _ _ _ _ _
   | exact ih1 _ _ _ _ _ _ _ _ _
   | exact ih2 _ _ _ _ _ _ _ _ _ _ _ _
   | exact ih3 _ _ _ _ _
   | exact refill_Between.mono _ _ _ _
   | exact refill_Clash.mono _ _
   | exact refill_Time.mono _ _ _
   | exact waterhourref04_Valid.mono _ _
   | exact LeO.none _
   | refine LeO.ite ?_ ?_
   | refine LeO.bind ?_ (fun _ => ?_)
  ·intro y0 y1 y2 y3 y4 y5 y6 y7 y8
   unfold waterhourlaw04_RefillMoved.l0
   repeat' first
   | (with_reducible exact ih0 _ _ _ _ _ _)
   | (with_reducible exact ih1 _ _ _ _ _ _ _ _ _)
   | (with_reducible exact ih2 _ _ _ _ _ _ _ _ _ _ _ _)
   | (with_reducible exact ih3 _ _ _ _ _)
   | (with_reducible exact refill_Between.mono _ _ _ _)
   | (with_reducible exact refill_Clash.mono _ _)
   | (with_reducible exact refill_Time.mono _ _ _)
   | (with_reducible exact waterhourref04_Valid.mono _ _)
   | (with_reducible exact LeO.refl _)
   | (with_reducible exact LeO.none _)
   | (with_reducible refine LeO.ite ?_ ?_)
   | (with_reducible refine LeO.bind ?_ (fun _ => ?_))
   | exact ih0 _ _ _ _ _ _
   | exact ih1 _ _ _ _ _ _ _ _ _
   | exact ih2 _ _ _ _ _ _ _ _ _ _ _ _
   | exact ih3 _ _ _ _ _
   | exact refill_Between.mono _ _ _ _
   | exact refill_Clash.mono _ _
   | exact refill_Time.mono _ _ _
   | exact waterhourref04_Valid.mono _ _
   | exact LeO.none _
   | refine LeO.ite ?_ ?_
   | refine LeO.bind ?_ (fun _ => ?_)
  ·intro y0 y1 y2 y3 y4 y5 y6 y7 y8 y9 y10 y11
   unfold waterhourlaw04_RefillMoved.j2
   repeat' first
   | (with_reducible exact ih0 _ _ _ _ _ _)
   | (with_reducible exact ih1 _ _ _ _ _ _ _ _ _)
   | (with_reducible exact ih2 _ _ _ _ _ _ _ _ _ _ _ _)
   | (with_reducible exact ih3 _ _ _ _ _)
   | (with_reducible exact refill_Between.mono _ _ _ _)
   | (with_reducible exact refill_Clash.mono _ _)
   | (with_reducible exact refill_Time.mono _ _ _)
   | (with_reducible exact waterhourref04_Valid.mono _ _)
   | (with_reducible exact LeO.refl _)
   | (with_reducible exact LeO.none _)
   | (with_reducible refine LeO.ite ?_ ?_)
   | (with_reducible refine LeO.bind ?_ (fun _ => ?_))
   | exact ih0 _ _ _ _ _ _
   | exact ih1 _ _ _ _ _ _ _ _ _
   | exact ih2 _ _ _ _ _ _ _ _ _ _ _ _
   | exact ih3 _ _ _ _ _
   | exact refill_Between.mono _ _ _ _
   | exact refill_Clash.mono _ _
   | exact refill_Time.mono _ _ _
   | exact waterhourref04_Valid.mono _ _
   | exact LeO.none _
   | refine LeO.ite ?_ ?_
   | refine LeO.bind ?_ (fun _ => ?_)
  ·intro y0 y1 y2 y3 y4
   unfold waterhourlaw04_RefillMoved.j3
   repeat' first
   | (with_reducible exact ih0 _ _ _ _ _ _)
   | (with_reducible exact ih1 _ _ _ _ _ _ _ _ _)
   | (with_reducible exact ih2 _ _ _ _ _ _ _ _ _ _ _ _)
   | (with_reducible exact ih3 _ _ _ _ _)
   | (with_reducible exact refill_Between.mono _ _ _ _)
   | (with_reducible exact refill_Clash.mono _ _)
   | (with_reducible exact refill_Time.mono _ _ _)
   | (with_reducible exact waterhourref04_Valid.mono _ _)
   | (with_reducible exact LeO.refl _)
   | (with_reducible exact LeO.none _)
   | (with_reducible refine LeO.ite ?_ ?_)
   | (with_reducible refine LeO.bind ?_ (fun _ => ?_))
   | exact ih0 _ _ _ _ _ _
   | exact ih1 _ _ _ _ _ _ _ _ _
   | exact ih2 _ _ _ _ _ _ _ _ _ _ _ _
   | exact ih3 _ _ _ _ _
   | exact refill_Between.mono _ _ _ _
   | exact refill_Clash.mono _ _
   | exact refill_Time.mono _ _ _
   | exact waterhourref04_Valid.mono _ _
   | exact LeO.none _
   | refine LeO.ite ?_ ?_
   | refine LeO.bind ?_ (fun _ => ?_)
theorem waterhourlaw04_RefillMoved.mono : ∀ a0 a1 a2 a3 a4 k, LeO (waterhourlaw04_RefillMoved.f k a0 a1 a2 a3 a4) (waterhourlaw04_RefillMoved.f (k + 1) a0 a1 a2 a3 a4) := by
 intro a0 a1 a2 a3 a4 k
 obtain ⟨ih0, ih1, ih2, ih3⟩ := waterhourlaw04_RefillMoved.mono_l k
 unfold waterhourlaw04_RefillMoved.f
 repeat' first
   | (with_reducible exact ih0 _ _ _ _ _ _)
   | (with_reducible exact ih1 _ _ _ _ _ _ _ _ _)
   | (with_reducible exact ih2 _ _ _ _ _ _ _ _ _ _ _ _)
   | (with_reducible exact ih3 _ _ _ _ _)
   | (with_reducible exact refill_Between.mono _ _ _ _)
   | (with_reducible exact refill_Clash.mono _ _)
   | (with_reducible exact refill_Time.mono _ _ _)
   | (with_reducible exact waterhourref04_Valid.mono _ _)
   | (with_reducible exact LeO.refl _)
   | (with_reducible exact LeO.none _)
   | (with_reducible refine LeO.ite ?_ ?_)
   | (with_reducible refine LeO.bind ?_ (fun _ => ?_))
   | exact ih0 _ _ _ _ _ _
   | exact ih1 _ _ _ _ _ _ _ _ _
   | exact ih2 _ _ _ _ _ _ _ _ _ _ _ _
   | exact ih3 _ _ _ _ _
   | exact refill_Between.mono _ _ _ _
   | exact refill_Clash.mono _ _
   | exact refill_Time.mono _ _ _
   | exact waterhourref04_Valid.mono _ _
   | exact LeO.none _
   | refine LeO.ite ?_ ?_
   | refine LeO.bind ?_ (fun _ => ?_)
def waterhourlaw04_RefillMoved.T6 : Bool × List (List Nat × List Nat) := (true, [([], []), ([], []), ([1], [1]), ([2], [2]), ([3], [3]), ([4], [4]), ([], []), ([5, 6], [5, 6]), ([], []), ([8], [8]), ([9], [9]), ([10], [10]), ([11], [11]), ([], []), ([12, 13], [12, 13]), ([7, 14], [7, 14]), ([0, 0, 1, 2, 3, 4, 5, 6, 7, 8, 9, 10, 11, 12, 13, 14, 15], [0]), ([16, 0, 1, 2, 3, 4, 5, 6, 7, 8, 9, 10, 11, 12, 13, 14, 15], [16]), ([17, 15, 0, 1, 2, 3, 4, 5, 6, 7, 8, 9, 10, 11, 12, 13, 14, 15], [15, 17])])
def waterhourlaw04_RefillMoved.B6 : List Nat := [0, 0, 2, 6, 14, 30, 0, 126, 0, 256, 768, 1792, 3840, 0, 16128, 32766, 65535, 131071, 262143]
theorem waterhourlaw04_RefillMoved.tab6 : rtab .any (opsOf Tryd.f12 6) = waterhourlaw04_RefillMoved.T6 := by kernel_rfl
theorem waterhourlaw04_RefillMoved.bits6 : waitsOk waterhourlaw04_RefillMoved.T6.2 waterhourlaw04_RefillMoved.B6 = true := by kernel_rfl
set_option maxHeartbeats 8000000 in
set_option maxRecDepth 100000 in
theorem waterhourlaw04_RefillMoved.calls (k : Nat) (A0 : Option Addr) (c0 : Nat) (l0 : List (S51)) (a1 : Int) (a2 : Int) (a3 : Int) (a4 : Int) (r : Bool) (w : World) (hr0 : Kd.C k51 w A0 l0.length l0) (hc0 : l0.length ≤ c0) (ht : TabB w) (hrt : Aside0 (r = true)) (h : waterhourlaw04_RefillMoved.f k l0 a1 a2 a3 a4 = some r) :
  Calls Tryd.prog 12 #[.slice A0 l0.length c0, .int .i64 a1, .int .i64 a2, .int .i64 a3, .int .i64 a4] w fun e w' => e = .returned (.bool r) ∧ Below w.heap.size w w' := by
 have hu49 := Tryd.underlying49
 have hu51 := Tryd.underlying51
 have HR0 := a_ hr0
 have HC0 := a_ hc0
 clear hr0 hc0
 have HT := a_ ht
 clear ht
 have HB := a_ (Below.refl w.heap.size w)
 have H : ((law_sane.f).bind fun t646 => (if t646 = true then ((waterhourref04_Valid.f k l0).bind fun t647 => (if t647 = true then (if a1 < (-524288) then (waterhourlaw04_RefillMoved.j0 k l0 a1 a2 a3 a4 true) else (if a1 > 524288 then (waterhourlaw04_RefillMoved.j0 k l0 a1 a2 a3 a4 true) else ((waterhourref04_Event.f l0 a2 0).bind fun t648 => (waterhourlaw04_RefillMoved.j0 k l0 a1 a2 a3 a4 (!t648))))) else (waterhourlaw04_RefillMoved.j0 k l0 a1 a2 a3 a4 true))) else (some false))) = some r := h
 clear h
 replace H := Option.bind_eq_some_iff.mp H
 obtain ⟨t646, A60, H⟩ := H
 replace H : (if t646 = true then ((waterhourref04_Valid.f k l0).bind fun t647 => (if t647 = true then (if a1 < (-524288) then (waterhourlaw04_RefillMoved.j0 k l0 a1 a2 a3 a4 true) else (if a1 > 524288 then (waterhourlaw04_RefillMoved.j0 k l0 a1 a2 a3 a4 true) else ((waterhourref04_Event.f l0 a2 0).bind fun t648 => (waterhourlaw04_RefillMoved.j0 k l0 a1 a2 a3 a4 (!t648))))) else (waterhourlaw04_RefillMoved.j0 k l0 a1 a2 a3 a4 true))) else (some false)) = some r := H
 have A6 := a_ A60
 clear A60
 by_cases c7 : t646 = true
 ·subst c7
  have H1 : ((waterhourref04_Valid.f k l0).bind fun t647 => (if t647 = true then (if a1 < (-524288) then (waterhourlaw04_RefillMoved.j0 k l0 a1 a2 a3 a4 true) else (if a1 > 524288 then (waterhourlaw04_RefillMoved.j0 k l0 a1 a2 a3 a4 true) else ((waterhourref04_Event.f l0 a2 0).bind fun t648 => (waterhourlaw04_RefillMoved.j0 k l0 a1 a2 a3 a4 (!t648))))) else (waterhourlaw04_RefillMoved.j0 k l0 a1 a2 a3 a4 true))) = some r := by rw [if_pos rfl] at H; exact H
  clear H
  have H := H1
  clear H1
  have HC8 := a_ H
  clear H
  go_enter Tryd.func12, Tryd.ntmps12
  go_upto_region 3 with (first | ((with_reducible refine gate_callee (f := 18) rfl ?_); refine goesL_ (some 32) rfl rfl Tryd.func18 (by kernel_rfl) rfl #[] rfl tm_ ?_; (with_reducible refine (law_sane.calls  true _ ?side1 A6.out).mono ?_); (case side1 => exact TabB.below HT.out bl_); rintro e w9 ⟨rfl, hb⟩; refine ⟨_, rfl, ?_⟩; have n0_ := a_ (below_step bl_ hb); clear HB; have HB := n0_; clear n0_; (try clear hb); (try clear hb2); (try clear hk); (try clear hi)))
  (try simp only [Act.put, List.setIfInBounds_toArray, List.set_cons_zero, List.set_cons_succ])
  go_cut [50] (fun v50 wc => ∃ (kq : Nat) (x50_7 : Bool), v50 = .bool x50_7 ∧ Aside0 (waterhourlaw04_RefillMoved.j0 kq l0 a1 a2 a3 a4 x50_7 = some r) ∧ Aside0 (kq ≤ k) ∧ Aside0 (Below w.heap.size w wc))
  case first => as_aux_lemma =>
   have H := HC8.out
   clear HC8
   replace H := Option.bind_eq_some_iff.mp H
   obtain ⟨t647, A100, H⟩ := H
   replace H : (if t647 = true then (if a1 < (-524288) then (waterhourlaw04_RefillMoved.j0 k l0 a1 a2 a3 a4 true) else (if a1 > 524288 then (waterhourlaw04_RefillMoved.j0 k l0 a1 a2 a3 a4 true) else ((waterhourref04_Event.f l0 a2 0).bind fun t648 => (waterhourlaw04_RefillMoved.j0 k l0 a1 a2 a3 a4 (!t648))))) else (waterhourlaw04_RefillMoved.j0 k l0 a1 a2 a3 a4 true)) = some r := H
   have A10 := a_ A100
   clear A100
   by_cases c11 : t647 = true
   ·subst c11
    have H1 : (if a1 < (-524288) then (waterhourlaw04_RefillMoved.j0 k l0 a1 a2 a3 a4 true) else (if a1 > 524288 then (waterhourlaw04_RefillMoved.j0 k l0 a1 a2 a3 a4 true) else ((waterhourref04_Event.f l0 a2 0).bind fun t648 => (waterhourlaw04_RefillMoved.j0 k l0 a1 a2 a3 a4 (!t648))))) = some r := by rw [if_pos rfl] at H; exact H
    clear H
    have H := H1
    clear H1
    by_cases c12 : a1 < (-524288)
    ·rw [if_pos c12] at H
     have c12b0 : decide (a1 < (-524288)) = true := decide_eq_true c12
     clear c12
     (first | rw [c12b0] | (simp only [i64_w, i32_w]; rw [c12b0]) | skip)
     have H' := a_ H
     clear H
     go_wp2_with (first | ((with_reducible refine gate_callee (f := 31) rfl ?_); refine goesL_ (some 35) rfl rfl Tryd.func31 (by kernel_rfl) rfl #[.slice A0 l0.length c0] rfl tm_ ?_; (with_reducible refine (waterhourref04_Valid.calls k _ _ l0 true _ ?side1 ?side2 A10.out).mono ?_); (case side1 => exact cl_ (Kd.C_below HR0.out HB.out)); (case side2 => exact HC0.out); rintro e w13 ⟨rfl, hb⟩; refine ⟨_, rfl, ?_⟩; have n0_ := a_ (below_step bl_ hb); clear HB; have HB := n0_; clear n0_; (try clear hb); (try clear hb2); (try clear hk); (try clear hi)))
     go_meet
     case rel => exact ⟨_, (true), (by first | rfl | (simp; done) | (simp [*]; done)), H', ⟨by first | omega | exact Nat.le_refl _⟩, ⟨bl_⟩⟩
    ·rw [if_neg c12] at H
     have c12b0 : decide (a1 < (-524288)) = false := decide_eq_false c12
     clear c12
     (first | rw [c12b0] | (simp only [i64_w, i32_w]; rw [c12b0]) | skip)
     by_cases c14 : a1 > 524288
     ·rw [if_pos c14] at H
      have c14b0 : decide (524288 < a1) = true := decide_eq_true c14
      clear c14
      have H' := a_ H
      clear H
      go_wp2_with (first | ((with_reducible refine gate_callee (f := 31) rfl ?_); refine goesL_ (some 35) rfl rfl Tryd.func31 (by kernel_rfl) rfl #[.slice A0 l0.length c0] rfl tm_ ?_; (with_reducible refine (waterhourref04_Valid.calls k _ _ l0 true _ ?side1 ?side2 A10.out).mono ?_); (case side1 => exact cl_ (Kd.C_below HR0.out HB.out)); (case side2 => exact HC0.out); rintro e w15 ⟨rfl, hb⟩; refine ⟨_, rfl, ?_⟩; have n0_ := a_ (below_step bl_ hb); clear HB; have HB := n0_; clear n0_; (try clear hb); (try clear hb2); (try clear hk); (try clear hi)))
      go_meet
      case rel => exact ⟨_, (true), (by first | rfl | (simp; done) | (simp [*]; done)), H', ⟨by first | omega | exact Nat.le_refl _⟩, ⟨bl_⟩⟩
     ·rw [if_neg c14] at H
      have c14b0 : decide (524288 < a1) = false := decide_eq_false c14
      clear c14
      replace H := Option.bind_eq_some_iff.mp H
      obtain ⟨t648, A160, H⟩ := H
      replace H : (waterhourlaw04_RefillMoved.j0 k l0 a1 a2 a3 a4 (!t648)) = some r := H
      have A16 := a_ A160
      clear A160
      have H' := a_ H
      clear H
      go_wp2_with (first | ((with_reducible refine gate_callee (f := 31) rfl ?_); refine goesL_ (some 35) rfl rfl Tryd.func31 (by kernel_rfl) rfl #[.slice A0 l0.length c0] rfl tm_ ?_; (with_reducible refine (waterhourref04_Valid.calls k _ _ l0 true _ ?side1 ?side2 A10.out).mono ?_); (case side1 => exact cl_ (Kd.C_below HR0.out HB.out)); (case side2 => exact HC0.out); rintro e w17 ⟨rfl, hb⟩; refine ⟨_, rfl, ?_⟩; have n0_ := a_ (below_step bl_ hb); clear HB; have HB := n0_; clear n0_; (try clear hb); (try clear hb2); (try clear hk); (try clear hi)) | (go_at_call 36; (with_reducible refine (waterhourref04_Event.calls _ _ l0 a2 0 t648 _ ?side1 ?side2 A16.out).mono ?_); (case side1 => exact cl_ (Kd.C_below HR0.out HB.out)); (case side2 => exact HC0.out); rintro e w' ⟨rfl, ⟨nd, rfl⟩⟩))
      go_meet
      case rel => exact ⟨_, (!t648), (by first | rfl | (simp; done) | (simp [*]; done)), H', ⟨by first | omega | exact Nat.le_refl _⟩, ⟨bl_⟩⟩
   ·replace c11 := Bool.eq_false_iff.mpr c11
    subst c11
    have H1 : (waterhourlaw04_RefillMoved.j0 k l0 a1 a2 a3 a4 true) = some r := by rw [if_neg (show ¬ (false = true) by decide)] at H; exact H
    clear H
    have H := H1
    clear H1
    have H' := a_ H
    clear H
    go_wp2_with (first | ((with_reducible refine gate_callee (f := 31) rfl ?_); refine goesL_ (some 35) rfl rfl Tryd.func31 (by kernel_rfl) rfl #[.slice A0 l0.length c0] rfl tm_ ?_; (with_reducible refine (waterhourref04_Valid.calls k _ _ l0 false _ ?side1 ?side2 A10.out).mono ?_); (case side1 => exact cl_ (Kd.C_below HR0.out HB.out)); (case side2 => exact HC0.out); rintro e w18 ⟨rfl, hb⟩; refine ⟨_, rfl, ?_⟩; have n0_ := a_ (below_step bl_ hb); clear HB; have HB := n0_; clear n0_; (try clear hb); (try clear hb2); (try clear hk); (try clear hi)))
    go_meet
    case rel => exact ⟨_, (true), (by first | rfl | (simp; done) | (simp [*]; done)), H', ⟨by first | omega | exact Nat.le_refl _⟩, ⟨bl_⟩⟩
  case rest =>
   clear HC8
   try clear c1
   try clear p2
   try clear c3
   try clear c7
   try clear c11
   try clear c12
   try clear c12b0
   try clear c14
   try clear c14b0
   try clear c18
   obtain ⟨kq, x50_7, rfl, HA, HJ7, HB⟩ := hcut
   cases kq with
   | zero => exact absurd HA.out (by simp [waterhourlaw04_RefillMoved.j0])
   | succ kj7 =>
    have H := HA.out
    clear HA
    simp only [waterhourlaw04_RefillMoved.j0] at H
    by_cases c19 : x50_7 = true
    ·subst c19
     have H1 : (some true) = some r := by rw [if_pos rfl] at H; exact H
     clear H
     have H := H1
     clear H1
     obtain rfl := Option.some.inj H
     go_wp2
     go_ret
     exact ⟨by first | rfl | (simp [errW_none, errW_some] <;> rfl) | (simp [*, errW_none, errW_some] <;> rfl), bl_⟩
    ·replace c19 := Bool.eq_false_iff.mpr c19
     subst c19
     have H1 : ((slices_CloneDay.f l0).bind fun t649 => (if 0 < (l0.length : Int) then (if 0 < (t649.length : Int) then (waterhourlaw04_RefillMoved.l0 kj7 l0 a1 a2 a3 a4 (t649.set (0 : Int).toNat (⟨(⟨wrap64 (((rd_T51 l0 0).f0.f0) + a1), wrap64 (((rd_T51 l0 0).f0.f1) + a1)⟩ : S49), (⟨(rd_T51 t649 0).f1.f0, (rd_T51 t649 0).f1.f1⟩ : S49)⟩ : S51)) l0 (l0.length : Int) 0) else (none)) else (none))) = some r := by rw [if_neg (show ¬ (false = true) by decide)] at H; exact H
     clear H
     have H := H1
     clear H1
     replace H := Option.bind_eq_some_iff.mp H
     obtain ⟨t649, A200, H⟩ := H
     replace H : (if 0 < (l0.length : Int) then (if 0 < (t649.length : Int) then (waterhourlaw04_RefillMoved.l0 kj7 l0 a1 a2 a3 a4 (t649.set (0 : Int).toNat (⟨(⟨wrap64 (((rd_T51 l0 0).f0.f0) + a1), wrap64 (((rd_T51 l0 0).f0.f1) + a1)⟩ : S49), (⟨(rd_T51 t649 0).f1.f0, (rd_T51 t649 0).f1.f1⟩ : S49)⟩ : S51)) l0 (l0.length : Int) 0) else (none)) else (none)) = some r := H
     have A20 := a_ A200
     clear A200
     by_cases c21 : 0 < (l0.length : Int)
     ·rw [if_pos c21] at H
      have c21b0 : decide (0 < (l0.length : Int)) = true := decide_eq_true c21
      have c21b1 : decide (0 < l0.length) = true := decide_eq_true (by omega)
      clear c21
      by_cases c22 : 0 < (t649.length : Int)
      ·rw [if_pos c22] at H
       have c22b0 : decide (0 < (t649.length : Int)) = true := decide_eq_true c22
       have c22b1 : decide (0 < t649.length) = true := decide_eq_true (by omega)
       clear c22
       obtain ⟨y654, hy654⟩ : ∃ y_ : List (S51), y_ = (t649.set (0 : Int).toNat (⟨(⟨wrap64 (((rd_T51 l0 0).f0.f0) + a1), wrap64 (((rd_T51 l0 0).f0.f1) + a1)⟩ : S49), (⟨(rd_T51 t649 0).f1.f0, (rd_T51 t649 0).f1.f1⟩ : S49)⟩ : S51)) := ⟨_, rfl⟩
       replace H : (waterhourlaw04_RefillMoved.l0 kj7 l0 a1 a2 a3 a4 y654 l0 (l0.length : Int) 0) = some r := by first | (rw [hy654]; with_reducible exact H) | (have H2_ := (Option.bind_some _ _).symm.trans H; rw [hy654]; with_reducible exact H2_) | (have H2_ := (Option.bind_some _ _).symm.trans H; with_reducible exact H2_) | with_reducible exact H | (rw [hy654]; exact H) | exact H
       have Ny654 := a_ hy654
       clear hy654
       have H' := a_ H
       clear H
       try go_wp2_with (first | ((with_reducible refine gate_callee (f := 46) rfl ?_); refine goesL_ (some 52) rfl rfl Tryd.func46 (by kernel_rfl) rfl #[.slice A0 l0.length c0] rfl tm_ ?_; (with_reducible refine (slices_CloneDay.calls _ _ l0 t649 _ ?side1 ?side2 A20.out).mono ?_); (case side1 => exact cl_ (Kd.C_below HR0.out HB.out)); (case side2 => exact HC0.out); rintro e w24 ⟨v650, rfl, ho0, hb⟩; refine ⟨_, rfl, ?_⟩; have n0_ := a_ (Kd.R_lower ho0 (below_size bl_)); have n1_ := a_ (below_step bl_ hb); clear HB; have HO651 := n0_; have HB := n1_; clear n0_ n1_; (try clear hb); (try clear hb2); (try clear hk); (try clear hi); (try clear ho0)))
       have n0_ := a_ (Kd.R_drew HO651.out)
       have n1_ := a_ (below_drew1 HB.out)
       clear HO651
       clear HB
       have HO651 := n0_
       have HB := n1_
       clear n0_ n1_
       have p652 : 0 ≤ (0 : Int) := (by omega)
       have q652 : 0 < (l0.length : Int) := of_decide_eq_true (by first | (with_reducible assumption) | assumption)
       obtain ⟨ad652, e652, hx652_0, hx652_1, hx652_2, hx652_3⟩ := at_T51 HR0.out 0 p652 q652
       have hw652_3 := hx652_3
       (try rw [show ((0 : Int)).toNat = 0 from rfl] at hw652_3)
       (try rw [show 0 * 4 = 0 from rfl] at hw652_3)
       (try rw [Addr.add_zero'] at hw652_3)
       have hw652_2 := hx652_2
       (try rw [show ((0 : Int)).toNat = 0 from rfl] at hw652_2)
       (try rw [show 0 * 4 = 0 from rfl] at hw652_2)
       (try rw [Addr.add_zero'] at hw652_2)
       have hw652_1 := hx652_1
       (try rw [show ((0 : Int)).toNat = 0 from rfl] at hw652_1)
       (try rw [show 0 * 4 = 0 from rfl] at hw652_1)
       (try rw [Addr.add_zero'] at hw652_1)
       have hw652_0 := hx652_0
       (try rw [show ((0 : Int)).toNat = 0 from rfl] at hw652_0)
       (try rw [show 0 * 4 = 0 from rfl] at hw652_0)
       (try rw [Addr.add_zero'] at hw652_0)
       cases e652
       have qi652 : (0 < l0.length) = True := eq_true (by omega)
       (try rw [show ((0 : Int)).toNat = 0 from rfl] at hx652_0)
       (try rw [show 0 * 4 = 0 from rfl] at hx652_0)
       (try rw [Addr.add_zero'] at hx652_0)
       (try rw [show ((0 : Int)).toNat = 0 from rfl] at hx652_1)
       (try rw [show 0 * 4 = 0 from rfl] at hx652_1)
       (try rw [Addr.add_zero'] at hx652_1)
       (try rw [show ((0 : Int)).toNat = 0 from rfl] at hx652_2)
       (try rw [show 0 * 4 = 0 from rfl] at hx652_2)
       (try rw [Addr.add_zero'] at hx652_2)
       (try rw [show ((0 : Int)).toNat = 0 from rfl] at hx652_3)
       (try rw [show 0 * 4 = 0 from rfl] at hx652_3)
       (try rw [Addr.add_zero'] at hx652_3)
       replace hx652_0 := (HB.out.cell (World.block_lt_of_cell? w _ hx652_0)).trans hx652_0
       replace hx652_1 := (HB.out.cell (World.block_lt_of_cell? w _ hx652_1)).trans hx652_1
       replace hx652_2 := (HB.out.cell (World.block_lt_of_cell? w _ hx652_2)).trans hx652_2
       replace hx652_3 := (HB.out.cell (World.block_lt_of_cell? w _ hx652_3)).trans hx652_3
       replace p652 := eq_true p652
       replace q652 := eq_true q652
       have p653 : 0 ≤ (0 : Int) := (by omega)
       have q653 : 0 < (l0.length : Int) := of_decide_eq_true (by first | (with_reducible assumption) | assumption)
       obtain ⟨ad653, e653, hx653_0, hx653_1, hx653_2, hx653_3⟩ := at_T51 HR0.out 0 p653 q653
       have hw653_3 := hx653_3
       (try rw [show ((0 : Int)).toNat = 0 from rfl] at hw653_3)
       (try rw [show 0 * 4 = 0 from rfl] at hw653_3)
       (try rw [Addr.add_zero'] at hw653_3)
       have hw653_2 := hx653_2
       (try rw [show ((0 : Int)).toNat = 0 from rfl] at hw653_2)
       (try rw [show 0 * 4 = 0 from rfl] at hw653_2)
       (try rw [Addr.add_zero'] at hw653_2)
       have hw653_1 := hx653_1
       (try rw [show ((0 : Int)).toNat = 0 from rfl] at hw653_1)
       (try rw [show 0 * 4 = 0 from rfl] at hw653_1)
       (try rw [Addr.add_zero'] at hw653_1)
       have hw653_0 := hx653_0
       (try rw [show ((0 : Int)).toNat = 0 from rfl] at hw653_0)
       (try rw [show 0 * 4 = 0 from rfl] at hw653_0)
       (try rw [Addr.add_zero'] at hw653_0)
       obtain rfl : ad652 = ad653 := (by injection e653)
       have qi653 : (0 < l0.length) = True := eq_true (by omega)
       (try rw [show ((0 : Int)).toNat = 0 from rfl] at hx653_0)
       (try rw [show 0 * 4 = 0 from rfl] at hx653_0)
       (try rw [Addr.add_zero'] at hx653_0)
       (try rw [show ((0 : Int)).toNat = 0 from rfl] at hx653_1)
       (try rw [show 0 * 4 = 0 from rfl] at hx653_1)
       (try rw [Addr.add_zero'] at hx653_1)
       (try rw [show ((0 : Int)).toNat = 0 from rfl] at hx653_2)
       (try rw [show 0 * 4 = 0 from rfl] at hx653_2)
       (try rw [Addr.add_zero'] at hx653_2)
       (try rw [show ((0 : Int)).toNat = 0 from rfl] at hx653_3)
       (try rw [show 0 * 4 = 0 from rfl] at hx653_3)
       (try rw [Addr.add_zero'] at hx653_3)
       replace hx653_0 := (HB.out.cell (World.block_lt_of_cell? w _ hx653_0)).trans hx653_0
       replace hx653_1 := (HB.out.cell (World.block_lt_of_cell? w _ hx653_1)).trans hx653_1
       replace hx653_2 := (HB.out.cell (World.block_lt_of_cell? w _ hx653_2)).trans hx653_2
       replace hx653_3 := (HB.out.cell (World.block_lt_of_cell? w _ hx653_3)).trans hx653_3
       replace p653 := eq_true p653
       replace q653 := eq_true q653
       have p23 : 0 ≤ (0 : Int) := (by omega)
       have q23 : (0 : Int) < ((t649.length : Int) : Int) := of_decide_eq_true (by first | (with_reducible assumption) | assumption)
       have qi23 : (0 < t649.length) = True := eq_true (by omega)
       obtain ⟨go23, co23, eo23, gb23, gl23, cl23, HG23⟩ := Kd.R_form HO651.out (by omega)
       (first | cases eo23 | (injection eo23 with ea_ en_ ec_; (first | subst ea_ | (injection ea_ with ea_; subst ea_)); subst ec_; clear en_))
       have GB23 := a_ gb23
       have GG23 := a_ HG23
       clear gb23 gl23 HG23
       obtain ⟨ce23, hcl23, hM23, hcc23, hfr23⟩ := Kd.R_elem HO651.out z51 (0 : Int) p23 q23
       obtain rfl := k51_openM hM23
       have hx23_0 : World.cell? _ ⟨go23, (0 : Int).toNat * 4, none⟩ = some (.int .i64 ((rd_T51 t649 0).f0.f0)) := hcc23 0 _ rfl
       have hx23_1 : World.cell? _ ⟨go23, (0 : Int).toNat * 4 + 1, none⟩ = some (.int .i64 ((rd_T51 t649 0).f0.f1)) := hcc23 1 _ rfl
       have hx23_2 : World.cell? _ ⟨go23, (0 : Int).toNat * 4 + 2, none⟩ = some (.int .i64 ((rd_T51 t649 0).f1.f0)) := hcc23 2 _ rfl
       have hx23_3 : World.cell? _ ⟨go23, (0 : Int).toNat * 4 + 3, none⟩ = some (.int .i64 ((rd_T51 t649 0).f1.f1)) := hcc23 3 _ rfl
       have hf23_0 : World.frozen? _ ⟨go23, (0 : Int).toNat * 4, none⟩ = false := hfr23 0
       have hf23_1 : World.frozen? _ ⟨go23, (0 : Int).toNat * 4 + 1, none⟩ = false := hfr23 1
       have hf23_2 : World.frozen? _ ⟨go23, (0 : Int).toNat * 4 + 2, none⟩ = false := hfr23 2
       have hf23_3 : World.frozen? _ ⟨go23, (0 : Int).toNat * 4 + 3, none⟩ = false := hfr23 3
       clear hcl23 hcc23 hfr23 hM23
       (try rw [show ((0 : Int)).toNat = 0 from rfl] at hx23_0)
       (try simp only [Nat.reduceMul, Nat.zero_mul, Nat.zero_add, Nat.reduceAdd] at hx23_0)
       (try rw [show ((0 : Int)).toNat = 0 from rfl] at hf23_0)
       (try simp only [Nat.reduceMul, Nat.zero_mul, Nat.zero_add, Nat.reduceAdd] at hf23_0)
       (try rw [show ((0 : Int)).toNat = 0 from rfl] at hx23_1)
       (try simp only [Nat.reduceMul, Nat.zero_mul, Nat.zero_add, Nat.reduceAdd] at hx23_1)
       (try rw [show ((0 : Int)).toNat = 0 from rfl] at hf23_1)
       (try simp only [Nat.reduceMul, Nat.zero_mul, Nat.zero_add, Nat.reduceAdd] at hf23_1)
       (try rw [show ((0 : Int)).toNat = 0 from rfl] at hx23_2)
       (try simp only [Nat.reduceMul, Nat.zero_mul, Nat.zero_add, Nat.reduceAdd] at hx23_2)
       (try rw [show ((0 : Int)).toNat = 0 from rfl] at hf23_2)
       (try simp only [Nat.reduceMul, Nat.zero_mul, Nat.zero_add, Nat.reduceAdd] at hf23_2)
       (try rw [show ((0 : Int)).toNat = 0 from rfl] at hx23_3)
       (try simp only [Nat.reduceMul, Nat.zero_mul, Nat.zero_add, Nat.reduceAdd] at hx23_3)
       (try rw [show ((0 : Int)).toNat = 0 from rfl] at hf23_3)
       (try simp only [Nat.reduceMul, Nat.zero_mul, Nat.zero_add, Nat.reduceAdd] at hf23_3)
       replace p23 := eq_true p23
       replace q23 := eq_true q23
       obtain ⟨ce26, hcl26, hM26, hcc26, hfr26⟩ := Kd.R_elem HO651.out z51 (0 : Int) (by omega) (by have h_ : (0 : Int) < ((t649.length : Int) : Int) := of_decide_eq_true (by first | (with_reducible assumption) | assumption); first | exact h_ | (have e_ := (Kd.R_reads' HO651.out).1; omega) | simpa using h_)
       obtain rfl := k51_openM hM26
       have HP26 := (Kd.R_seg HO651.out (0 : Int) (by omega) (by have h_ : (0 : Int) < ((t649.length : Int) : Int) := of_decide_eq_true (by first | (with_reducible assumption) | assumption); first | exact h_ | (have e_ := (Kd.R_reads' HO651.out).1; omega) | simpa using h_) (seg := [.int .i64 (wrap64 (((rd_T51 l0 0).f0.f0) + a1)), .int .i64 (wrap64 (((rd_T51 l0 0).f0.f1) + a1))]) (j := 0) hcl26 hcc26 (show 2 ≤ 4 from by decide) (x' := (⟨(⟨wrap64 (((rd_T51 l0 0).f0.f0) + a1), wrap64 (((rd_T51 l0 0).f0.f1) + a1)⟩ : S49), (⟨(rd_T51 t649 0).f1.f0, (rd_T51 t649 0).f1.f1⟩ : S49)⟩ : S51)) (k51_mkM _ _ _ (⟨(⟨wrap64 (((rd_T51 l0 0).f0.f0) + a1), wrap64 (((rd_T51 l0 0).f0.f1) + a1)⟩ : S49), (⟨(rd_T51 t649 0).f1.f0, (rd_T51 t649 0).f1.f1⟩ : S49)⟩ : S51) ) (fun _ hk => hk)).1
       rw [← Ny654.out] at HP26
       have HQ26 := a_ HP26
       clear hcl26 hcc26 hfr26 hM26 HP26
       refine start_ (n := 19) (S := fun w' => w'.cell? ad652 = some (.int .i64 ((rd_T51 l0 0).f0.f0)) ∧ w'.cell? ⟨ad652.block, ad652.off + 1, none⟩ = some (.int .i64 ((rd_T51 l0 0).f0.f1)) ∧ w'.cell? ⟨ad652.block, ad652.off + 2, none⟩ = some (.int .i64 ((rd_T51 l0 0).f1.f0)) ∧ w'.cell? ⟨ad652.block, ad652.off + 3, none⟩ = some (.int .i64 ((rd_T51 l0 0).f1.f1)) ∧ w'.cell? ad652 = some (.int .i64 ((rd_T51 l0 0).f0.f0)) ∧ w'.cell? ⟨ad652.block, ad652.off + 1, none⟩ = some (.int .i64 ((rd_T51 l0 0).f0.f1)) ∧ w'.cell? ⟨ad652.block, ad652.off + 2, none⟩ = some (.int .i64 ((rd_T51 l0 0).f1.f0)) ∧ w'.cell? ⟨ad652.block, ad652.off + 3, none⟩ = some (.int .i64 ((rd_T51 l0 0).f1.f1))) (ds := [18]) #[false, false, false, false, false, false, false, false, false, false, false, false, false, false, false, false, false, false, false] (by kernel_rfl) rfl rfl ⟨((HB.out.cell (World.block_lt_of_cell? w _ hw652_0)).trans hw652_0), ((HB.out.cell (World.block_lt_of_cell? w _ hw652_1)).trans hw652_1), ((HB.out.cell (World.block_lt_of_cell? w _ hw652_2)).trans hw652_2), ((HB.out.cell (World.block_lt_of_cell? w _ hw652_3)).trans hw652_3), ((HB.out.cell (World.block_lt_of_cell? w _ hw653_0)).trans hw653_0), ((HB.out.cell (World.block_lt_of_cell? w _ hw653_1)).trans hw653_1), ((HB.out.cell (World.block_lt_of_cell? w _ hw653_2)).trans hw653_2), ((HB.out.cell (World.block_lt_of_cell? w _ hw653_3)).trans hw653_3)⟩ (fun hHeld => ?_); refine with_tabW waterhourlaw04_RefillMoved.tab6 waterhourlaw04_RefillMoved.bits6 (fun HT_ HW_ => ?_)
       generalize w24.drew = w25 at HO651 HB GG23 HQ26 hf23_0 hf23_1 hf23_2 hf23_3 hx23_0 hx23_1 hx23_2 hx23_3 hx652_0 hx652_1 hx652_2 hx652_3 hx653_0 hx653_1 hx653_2 hx653_3 hHeld ⊢
       refine pz_ 0 53 HT_ ?_
       refine pz_ 1 54 HT_ ?_
       refine pz_ 2 55 HT_ ?_
       refine pz_ 3 56 HT_ ?_
       refine pz_ 4 57 HT_ ?_
       refine pz_ 6 59 HT_ ?_
       refine pz_ 8 61 HT_ ?_
       refine pz_ 9 62 HT_ ?_
       refine pz_ 10 63 HT_ ?_
       refine pz_ 11 64 HT_ ?_
       refine pz_ 13 66 HT_ ?_
       refine take_ (i := 5) (N := some 58) (v := ?_) (a' := ?_) #[true, true, true, true, true, true, true, false, true, true, true, true, false, true, false, false, false, false, false] rfl rfl (take_ofW HT_.out HW_.out (by kernel_rfl)) (fun _ _ _ h => h) (Or.inl ⟨by rfl, ?_⟩) hHeld ?_ ?_
       rotate_left
       ·rintro w' ⟨s0, s1, s2, s3, s4, s5, s6, s7⟩
        go_simp
        with_reducible rfl
       rotate_left
       ·simp only [Act.put, List.setIfInBounds_toArray, List.set_cons_zero, List.set_cons_succ, i64_w, i32_w]
        rfl
       refine pz_ 7 60 HT_ ?_
       refine take_ (i := 12) (N := some 65) (v := ?_) (a' := ?_) #[true, true, true, true, true, true, true, true, true, true, true, true, true, true, false, false, false, false, false] rfl rfl (take_ofW HT_.out HW_.out (by kernel_rfl)) (fun _ _ _ h => h) (Or.inl ⟨by rfl, ?_⟩) hHeld ?_ ?_
       rotate_left
       ·rintro w' ⟨s0, s1, s2, s3, s4, s5, s6, s7⟩
        go_simp
        with_reducible rfl
       rotate_left
       ·simp only [Act.put, List.setIfInBounds_toArray, List.set_cons_zero, List.set_cons_succ, i64_w, i32_w]
        rfl
       refine pz_ 14 67 HT_ ?_
       refine pz_ 15 68 HT_ ?_
       refine pz_ 16 69 HT_ ?_
       refine pz_ 17 70 HT_ ?_
       refine last_ (i := 18) (N := none) #[true, true, true, true, true, true, true, true, true, true, true, true, true, true, true, true, true, true, true] rfl rfl (one_of HT_.out (by kernel_rfl)) (by decide) (fun K hK => ?_)
       refine skip_ (w1 := ?_) (by rfl) rfl ?_ ?_
       rotate_left
       ·go_simp
        rfl
       refine hK.out _ _ ?_
       clear hK K
       refine done_ (done_of HT_.out (by kernel_rfl)) ?_
       try go_wp2
       go_loopg [73] kj7 (fun kq v73 w' => ∃ (x11_2 : List (S51)) (x73_2 : Int), v73 = .int .i64 x73_2 ∧ Aside0 (waterhourlaw04_RefillMoved.l0 kq l0 a1 a2 a3 a4 x11_2 l0 (l0.length : Int) x73_2 = some r) ∧ Aside0 (kq ≤ kj7) ∧ Aside0 (Kd.R k51 51 w' w.heap.size (fun _ => True) (.slice (some ⟨go23, 0, none⟩) t649.length co23) x11_2) ∧ Aside0 (Below w.heap.size w w'))
       case atStart => exact ⟨(y654), (0), (by first | rfl | (simp; done) | (simp [*]; done)), H', ⟨Nat.le_refl _⟩, ⟨rl_ HQ26.out⟩, ⟨bl_⟩⟩
       case round => as_aux_lemma =>
        clear H'
        try clear c1
        try clear c2
        try clear p2
        try clear q2
        try clear hx2
        try clear qi2
        try clear c3
        try clear c4
        try clear p6
        try clear q6
        try clear hx6
        try clear qi6
        try clear c7
        try clear c11
        try clear c12
        try clear c12b0
        try clear c14
        try clear c14b0
        try clear c18
        try clear c19
        try clear c21
        try clear c21b0
        try clear c21b1
        try clear c22
        try clear c22b0
        try clear c22b1
        try clear c23
        try clear p23
        try clear q23
        try clear hx23
        try clear qi23
        try clear hf23
        try clear c26
        try clear hx23_0
        try clear hx23_1
        try clear hx23_2
        try clear hx23_3
        try clear hx652_0
        try clear hx652_1
        try clear hx652_2
        try clear hx652_3
        try clear hx653_0
        try clear hx653_1
        try clear hx653_2
        try clear hx653_3
        try clear p2
        try clear p23
        try clear p652
        try clear p653
        try clear q23
        try clear q652
        try clear q653
        obtain ⟨x11_2, x73_2, rfl, HA, HK2, HO_11, HB⟩ := hrel
        have hl11_2 := (Kd.R_reads' HO_11.out).1
        rw [hl11_2] at HO_11
        (try simp only [hl11_2])
        cases gk with
        | zero => exact absurd HA.out (by simp [waterhourlaw04_RefillMoved.l0])
        | succ k2 =>
         have H := HA.out
         clear HA
         simp only [waterhourlaw04_RefillMoved.l0] at H
         by_cases c27 : x73_2 < (l0.length : Int)
         ·rw [if_pos c27] at H
          have c27b0 : decide (x73_2 < (l0.length : Int)) = true := decide_eq_true c27
          clear c27
          by_cases c28 : 0 ≤ x73_2
          ·rw [if_pos c28] at H
           have c28b0 : decide (0 ≤ x73_2) = true := decide_eq_true c28
           clear c28
           by_cases c29 : x73_2 < (l0.length : Int)
           ·rw [if_pos c29] at H
            have c29b0 : decide (x73_2 < (l0.length : Int)) = true := decide_eq_true c29
            clear c29
            replace H := Option.bind_eq_some_iff.mp H
            obtain ⟨t657, A300, H⟩ := H
            replace H : (if t657 = true then (if x73_2 < (x11_2.length : Int) then (waterhourlaw04_RefillMoved.l0 k2 l0 a1 a2 a3 a4 (x11_2.set (x73_2 : Int).toNat (⟨(⟨(rd_T51 x11_2 x73_2).f0.f0, (rd_T51 x11_2 x73_2).f0.f1⟩ : S49), (⟨wrap64 (((rd_T51 l0 x73_2).f1.f0) + a1), wrap64 (((rd_T51 l0 x73_2).f1.f1) + a1)⟩ : S49)⟩ : S51)) l0 (l0.length : Int) (wrap64 (x73_2 + 1))) else (none)) else (waterhourlaw04_RefillMoved.l0 k2 l0 a1 a2 a3 a4 x11_2 l0 (l0.length : Int) (wrap64 (x73_2 + 1)))) = some r := H
            have A30 := a_ A300
            clear A300
            by_cases c31 : t657 = true
            ·subst c31
             have H1 : (if x73_2 < (x11_2.length : Int) then (waterhourlaw04_RefillMoved.l0 k2 l0 a1 a2 a3 a4 (x11_2.set (x73_2 : Int).toNat (⟨(⟨(rd_T51 x11_2 x73_2).f0.f0, (rd_T51 x11_2 x73_2).f0.f1⟩ : S49), (⟨wrap64 (((rd_T51 l0 x73_2).f1.f0) + a1), wrap64 (((rd_T51 l0 x73_2).f1.f1) + a1)⟩ : S49)⟩ : S51)) l0 (l0.length : Int) (wrap64 (x73_2 + 1))) else (none)) = some r := by rw [if_pos rfl] at H; exact H
             clear H
             have H := H1
             clear H1
             by_cases c32 : x73_2 < (x11_2.length : Int)
             ·rw [if_pos c32] at H
              have c32b0 : decide (x73_2 < (x11_2.length : Int)) = true := decide_eq_true c32
              clear c32
              obtain ⟨y658, hy658⟩ : ∃ y_ : List (S51), y_ = (x11_2.set (x73_2 : Int).toNat (⟨(⟨(rd_T51 x11_2 x73_2).f0.f0, (rd_T51 x11_2 x73_2).f0.f1⟩ : S49), (⟨wrap64 (((rd_T51 l0 x73_2).f1.f0) + a1), wrap64 (((rd_T51 l0 x73_2).f1.f1) + a1)⟩ : S49)⟩ : S51)) := ⟨_, rfl⟩
              replace H : (waterhourlaw04_RefillMoved.l0 k2 l0 a1 a2 a3 a4 y658 l0 (l0.length : Int) (wrap64 (x73_2 + 1))) = some r := by first | (rw [hy658]; with_reducible exact H) | (have H2_ := (Option.bind_some _ _).symm.trans H; rw [hy658]; with_reducible exact H2_) | (have H2_ := (Option.bind_some _ _).symm.trans H; with_reducible exact H2_) | with_reducible exact H | (rw [hy658]; exact H) | exact H
              have Ny658 := a_ hy658
              clear hy658
              have H' := a_ H
              clear H
              have p655 : 0 ≤ (x73_2 : Int) := of_decide_eq_true (by first | (with_reducible assumption) | assumption)
              have q655 : x73_2 < (l0.length : Int) := of_decide_eq_true (by first | (with_reducible assumption) | assumption)
              obtain ⟨ad655, e655, hx655_0, hx655_1, hx655_2, hx655_3⟩ := at_T51 HR0.out x73_2 p655 q655
              obtain rfl : ad652 = ad655 := (by injection e655)
              replace hx655_0 := (HB.out.cell (World.block_lt_of_cell? w _ hx655_0)).trans hx655_0
              replace hx655_1 := (HB.out.cell (World.block_lt_of_cell? w _ hx655_1)).trans hx655_1
              replace hx655_2 := (HB.out.cell (World.block_lt_of_cell? w _ hx655_2)).trans hx655_2
              replace hx655_3 := (HB.out.cell (World.block_lt_of_cell? w _ hx655_3)).trans hx655_3
              replace p655 := eq_true p655
              replace q655 := eq_true q655
              go_wp2_with (first | ((with_reducible refine gate_dst (N := 13) rfl ?_); refine box_event ?hg (N := 13) ?hd (cs := #[.int .i64 0, .int .i64 0, .int .i64 0, .int .i64 0]) (t := 51) ?hr ?_; (case hd => rfl); (case hg => rfl); (case hr => first | (go_simp; done) | (go_simp; rfl)); intro gb656 hg w34 hbox hb; have n0_ := a_ (Kd.R_below (Kd.R_elderB (rl_ HO_11.out) gb656 (Nat.le_of_eq hg.symm)) hb); have n1_ := a_ (below_step bl_ hb); have n2_ := a_ (hbox); have n3_ := a_ ((bz_ (w := w) hg)); have n4_ := a_ ((bz_ (w := w) hg)); clear HO_11; clear HB; have HO_11 := n0_; have HB := n1_; have BK656 := n2_; have GW656 := n3_; have GE656 := n4_; clear n0_ n1_ n2_ n3_ n4_; clear hb hbox hg; have hcz35_0 : w34.cell? ⟨gb656, 0, none⟩ = some (.int .i64 0) := (blk_cell BK656.out 0).trans rfl; have hcz35_1 : w34.cell? ⟨gb656, 1, none⟩ = some (.int .i64 0) := (blk_cell BK656.out 1).trans rfl; have hcz35_2 : w34.cell? ⟨gb656, 2, none⟩ = some (.int .i64 0) := (blk_cell BK656.out 2).trans rfl; have hcz35_3 : w34.cell? ⟨gb656, 3, none⟩ = some (.int .i64 0) := (blk_cell BK656.out 3).trans rfl; have hfz35_0 := blk_frozen BK656.out 0; have hfz35_1 := blk_frozen BK656.out 1; have hfz35_2 := blk_frozen BK656.out 2; have hfz35_3 := blk_frozen BK656.out 3) | ((with_reducible refine gate_callee (f := 38) rfl ?_); refine goesL_ (some 80) rfl rfl Tryd.func38 (by kernel_rfl) rfl #[.agg #[.int .i64 ((rd_T51 l0 x73_2).f1.f0), .int .i64 ((rd_T51 l0 x73_2).f1.f1)]] rfl tm_ ?_; (with_reducible refine (waterhourref04_Known.calls ((rd_T51 l0 x73_2).f1.f0) ((rd_T51 l0 x73_2).f1.f1) true _ A30.out).mono ?_); rintro e w36 ⟨rfl, hb⟩; refine ⟨_, rfl, ?_⟩; have n0_ := a_ (Kd.R_below (by (with_reducible repeat (first | apply Kd.R_alloc | apply Kd.R_drewN | apply Kd.R_drew)); exact (Kd.R_mono (Kd.R_far (p := ⟨gb656, 3, none⟩) (Kd.R_far (p := ⟨gb656, 2, none⟩) (Kd.R_far (p := ⟨gb656, 1, none⟩) (Kd.R_far (p := ⟨gb656, 0, none⟩) (Kd.R_mono HO_11.out (fun k_ hk => (⟨hk, hk.2⟩ : _ ∧ k_ ≠ gb656))) (fun _ hk => hk.2) (.int .i64 ((rd_T51 l0 x73_2).f0.f0))) (fun _ hk => hk.2) (.int .i64 ((rd_T51 l0 x73_2).f0.f1))) (fun _ hk => hk.2) (.int .i64 ((rd_T51 l0 x73_2).f1.f0))) (fun _ hk => hk.2) (.int .i64 ((rd_T51 l0 x73_2).f1.f1))) (fun _ h_ => h_.1))) hb); have n1_ := a_ (blk_below (g := gb656) (o := .cells #[.int .i64 ((rd_T51 l0 x73_2).f0.f0), .int .i64 ((rd_T51 l0 x73_2).f0.f1), .int .i64 ((rd_T51 l0 x73_2).f1.f0), .int .i64 ((rd_T51 l0 x73_2).f1.f1)] 51 (0, 0)) (by (with_reducible repeat (first | refine blk_drewN ?_ _ | refine blk_drew ?_ | refine blk_alloc ?_ _)); refine blk_put (cs := #[.int .i64 ((rd_T51 l0 x73_2).f0.f0), .int .i64 ((rd_T51 l0 x73_2).f0.f1), .int .i64 ((rd_T51 l0 x73_2).f1.f0), .int .i64 0]) ?_ 3 _ rfl; (with_reducible repeat (first | refine blk_drewN ?_ _ | refine blk_drew ?_ | refine blk_alloc ?_ _)); refine blk_put (cs := #[.int .i64 ((rd_T51 l0 x73_2).f0.f0), .int .i64 ((rd_T51 l0 x73_2).f0.f1), .int .i64 0, .int .i64 0]) ?_ 2 _ rfl; (with_reducible repeat (first | refine blk_drewN ?_ _ | refine blk_drew ?_ | refine blk_alloc ?_ _)); refine blk_put (cs := #[.int .i64 ((rd_T51 l0 x73_2).f0.f0), .int .i64 0, .int .i64 0, .int .i64 0]) ?_ 1 _ rfl; (with_reducible repeat (first | refine blk_drewN ?_ _ | refine blk_drew ?_ | refine blk_alloc ?_ _)); refine blk_put (cs := #[.int .i64 0, .int .i64 0, .int .i64 0, .int .i64 0]) ?_ 0 _ rfl; (with_reducible repeat (first | refine blk_drewN ?_ _ | refine blk_drew ?_ | refine blk_alloc ?_ _)); exact BK656.out) hb); have n2_ := a_ (below_step bl_ hb); clear HO_11; clear BK656; clear HB; have HO_11 := n0_; have BK656 := n1_; have HB := n2_; clear n0_ n1_ n2_; (try clear hb); (try clear hb2); (try clear hk); (try clear hi); have hcz37_0 : w36.cell? ⟨gb656, 0, none⟩ = some (.int .i64 ((rd_T51 l0 x73_2).f0.f0)) := (blk_cell BK656.out 0).trans rfl; have hcz37_1 : w36.cell? ⟨gb656, 1, none⟩ = some (.int .i64 ((rd_T51 l0 x73_2).f0.f1)) := (blk_cell BK656.out 1).trans rfl; have hcz37_2 : w36.cell? ⟨gb656, 2, none⟩ = some (.int .i64 ((rd_T51 l0 x73_2).f1.f0)) := (blk_cell BK656.out 2).trans rfl; have hcz37_3 : w36.cell? ⟨gb656, 3, none⟩ = some (.int .i64 ((rd_T51 l0 x73_2).f1.f1)) := (blk_cell BK656.out 3).trans rfl; have hfz37_0 := blk_frozen BK656.out 0; have hfz37_1 := blk_frozen BK656.out 1; have hfz37_2 := blk_frozen BK656.out 2; have hfz37_3 := blk_frozen BK656.out 3; have p33 : 0 ≤ (x73_2 : Int) := of_decide_eq_true (by first | (with_reducible assumption) | assumption); have q33 : (x73_2 : Int) < ((x11_2.length : Int) : Int) := of_decide_eq_true (by first | (with_reducible assumption) | assumption); obtain ⟨ce33, hcl33, hM33, hcc33, hfr33⟩ := Kd.R_elem HO_11.out z51 (x73_2 : Int) p33 q33; obtain rfl := k51_openM hM33; have hx33_0 : w36.cell? ⟨go23, (x73_2 : Int).toNat * 4, none⟩ = some (.int .i64 ((rd_T51 x11_2 x73_2).f0.f0)) := hcc33 0 _ rfl; have hx33_1 : w36.cell? ⟨go23, (x73_2 : Int).toNat * 4 + 1, none⟩ = some (.int .i64 ((rd_T51 x11_2 x73_2).f0.f1)) := hcc33 1 _ rfl; have hx33_2 : w36.cell? ⟨go23, (x73_2 : Int).toNat * 4 + 2, none⟩ = some (.int .i64 ((rd_T51 x11_2 x73_2).f1.f0)) := hcc33 2 _ rfl; have hx33_3 : w36.cell? ⟨go23, (x73_2 : Int).toNat * 4 + 3, none⟩ = some (.int .i64 ((rd_T51 x11_2 x73_2).f1.f1)) := hcc33 3 _ rfl; have hf33_0 : w36.frozen? ⟨go23, (x73_2 : Int).toNat * 4, none⟩ = false := hfr33 0; have hf33_1 : w36.frozen? ⟨go23, (x73_2 : Int).toNat * 4 + 1, none⟩ = false := hfr33 1; have hf33_2 : w36.frozen? ⟨go23, (x73_2 : Int).toNat * 4 + 2, none⟩ = false := hfr33 2; have hf33_3 : w36.frozen? ⟨go23, (x73_2 : Int).toNat * 4 + 3, none⟩ = false := hfr33 3; clear hcl33 hcc33 hfr33 hM33; replace p33 := eq_true p33; replace q33 := eq_true q33; have n_ := a_ (Kd.R_mono (ok' := (fun k_ => k_ ≠ gb656)) HO_11.out (fun k_ hk => hk.2)); clear HO_11; have HO_11 := n_; clear n_; have HX38 := a_ (show Kd.R k51 51 w36 w.heap.size (fun k_ => k_ ≠ gb656) (.slice (some ⟨go23, 0, none⟩) x11_2.length co23) x11_2 from (rl_ HO_11.out)); obtain ⟨ce38, hcl38, hM38, hcc38, hfr38⟩ := Kd.R_elem HX38.out z51 (x73_2 : Int) (of_decide_eq_true (by first | (with_reducible assumption) | assumption)) (by have h_ : (x73_2 : Int) < ((x11_2.length : Int) : Int) := of_decide_eq_true (by first | (with_reducible assumption) | assumption); first | exact h_ | (have e_ := (Kd.R_reads' HO_11.out).1; omega) | simpa using h_); obtain rfl := k51_openM hM38; have HP38 := Kd.R_seg HX38.out (x73_2 : Int) (of_decide_eq_true (by first | (with_reducible assumption) | assumption)) (by have h_ : (x73_2 : Int) < ((x11_2.length : Int) : Int) := of_decide_eq_true (by first | (with_reducible assumption) | assumption); first | exact h_ | (have e_ := (Kd.R_reads' HO_11.out).1; omega) | simpa using h_) (seg := [.int .i64 (wrap64 (((rd_T51 l0 x73_2).f1.f0) + a1)), .int .i64 (wrap64 (((rd_T51 l0 x73_2).f1.f1) + a1))]) (j := 2) hcl38 hcc38 (show 4 ≤ 4 from by decide) (x' := (⟨(⟨(rd_T51 x11_2 x73_2).f0.f0, (rd_T51 x11_2 x73_2).f0.f1⟩ : S49), (⟨wrap64 (((rd_T51 l0 x73_2).f1.f0) + a1), wrap64 (((rd_T51 l0 x73_2).f1.f1) + a1)⟩ : S49)⟩ : S51)) (k51_mkM _ _ _ (⟨(⟨(rd_T51 x11_2 x73_2).f0.f0, (rd_T51 x11_2 x73_2).f0.f1⟩ : S49), (⟨wrap64 (((rd_T51 l0 x73_2).f1.f0) + a1), wrap64 (((rd_T51 l0 x73_2).f1.f1) + a1)⟩ : S49)⟩ : S51) ) (fun _ hk => hk); have hx38_2 := hcc38 2 _ rfl; (try simp only [show (k51).sz = 4 from rfl, Nat.mul_one, Nat.add_zero] at hx38_2); have hf38_2 := hfr38 2; (try simp only [show (k51).sz = 4 from rfl, Nat.mul_one, Nat.add_zero] at hf38_2); have hx38_3 := hcc38 3 _ rfl; (try simp only [show (k51).sz = 4 from rfl, Nat.mul_one, Nat.add_zero] at hx38_3); have hf38_3 := hfr38 3; (try simp only [show (k51).sz = 4 from rfl, Nat.mul_one, Nat.add_zero] at hf38_3); clear hcl38 hcc38 hfr38 hM38) | ((with_reducible refine gate_store (t := 49) (p := 95) rfl ?_); refine store_event (t := 49) (p := 95) (v := ?vo_w39) (w1 := ((w36.setCell ⟨go23, (x73_2 : Int).toNat * 4 + 2, none⟩ (.int .i64 (wrap64 (((rd_T51 l0 x73_2).f1.f0) + a1)))).setCell ⟨go23, (x73_2 : Int).toNat * 4 + 3, none⟩ (.int .i64 (wrap64 (((rd_T51 l0 x73_2).f1.f1) + a1))))) ?hg ?ho ?hn ?hr ?_; (case ho => rfl); (case hg => rfl); (case hn => rfl); (case hr => first | (go_simp; done) | (go_simp; rfl)); intro w39 hw; have hg : w36.grownBy w39 (some go23) := (by rw [hw]; exact HP38.2); have hp_ : Kd.R k51 51 w39 w.heap.size (fun k_ => k_ ≠ gb656) (.slice (some ⟨go23, 0, none⟩) x11_2.length co23) y658 := (by rw [hw, Ny658.out]; exact HP38.1); clear HP38; have n0_ := a_ (hp_); have n1_ := a_ (blk_grown (g := gb656) (o := .cells #[.int .i64 ((rd_T51 l0 x73_2).f0.f0), .int .i64 ((rd_T51 l0 x73_2).f0.f1), .int .i64 ((rd_T51 l0 x73_2).f1.f0), .int .i64 ((rd_T51 l0 x73_2).f1.f1)] 51 (0, 0)) (by (with_reducible repeat (first | refine blk_drewN ?_ _ | refine blk_drew ?_ | refine blk_alloc ?_ _)); exact BK656.out) hg (Kd.R_away HO_11.out (fun _ hk => hk))); have n2_ := a_ ((by rw [hw]; exact below_set (below_set (HB.out) GB23.out) GB23.out : Below w.heap.size w w39)); clear HO_11; clear BK656; clear HB; have HO_11 := n0_; have BK656 := n1_; have HB := n2_; clear n0_ n1_ n2_; clear hg hw hp_))
              (try simp only [← hl11_2])
              go_roundg k2
              case measure => have := HJ7.out; have := HK2.out; omega
              case rel => exact ⟨(y658), (wrap64 (x73_2 + 1)), (by first | rfl | (simp; done) | (simp [*]; done)), H', ⟨by have := HJ7.out; have := HK2.out; omega⟩, ⟨by (try simp only [hl11_2]); (with_reducible repeat (first | apply Kd.R_alloc | apply Kd.R_drewN | apply Kd.R_drew)); exact Kd.R_mono HO_11.out (fun _ hk => trivial)⟩, ⟨bl_⟩⟩
             ·rw [if_neg c32] at H
              exact absurd H (by simp)
            ·replace c31 := Bool.eq_false_iff.mpr c31
             subst c31
             have H1 : (waterhourlaw04_RefillMoved.l0 k2 l0 a1 a2 a3 a4 x11_2 l0 (l0.length : Int) (wrap64 (x73_2 + 1))) = some r := by rw [if_neg (show ¬ (false = true) by decide)] at H; exact H
             clear H
             have H := H1
             clear H1
             have H' := a_ H
             clear H
             have p655 : 0 ≤ (x73_2 : Int) := of_decide_eq_true (by first | (with_reducible assumption) | assumption)
             have q655 : x73_2 < (l0.length : Int) := of_decide_eq_true (by first | (with_reducible assumption) | assumption)
             obtain ⟨ad655, e655, hx655_0, hx655_1, hx655_2, hx655_3⟩ := at_T51 HR0.out x73_2 p655 q655
             obtain rfl : ad652 = ad655 := (by injection e655)
             replace hx655_0 := (HB.out.cell (World.block_lt_of_cell? w _ hx655_0)).trans hx655_0
             replace hx655_1 := (HB.out.cell (World.block_lt_of_cell? w _ hx655_1)).trans hx655_1
             replace hx655_2 := (HB.out.cell (World.block_lt_of_cell? w _ hx655_2)).trans hx655_2
             replace hx655_3 := (HB.out.cell (World.block_lt_of_cell? w _ hx655_3)).trans hx655_3
             replace p655 := eq_true p655
             replace q655 := eq_true q655
             go_wp2_with (first | ((with_reducible refine gate_dst (N := 13) rfl ?_); refine box_event ?hg (N := 13) ?hd (cs := #[.int .i64 0, .int .i64 0, .int .i64 0, .int .i64 0]) (t := 51) ?hr ?_; (case hd => rfl); (case hg => rfl); (case hr => first | (go_simp; done) | (go_simp; rfl)); intro gb656 hg w40 hbox hb; have n0_ := a_ (Kd.R_below (Kd.R_elderB (rl_ HO_11.out) gb656 (Nat.le_of_eq hg.symm)) hb); have n1_ := a_ (below_step bl_ hb); have n2_ := a_ (hbox); have n3_ := a_ ((bz_ (w := w) hg)); have n4_ := a_ ((bz_ (w := w) hg)); clear HO_11; clear HB; have HO_11 := n0_; have HB := n1_; have BK656 := n2_; have GW656 := n3_; have GE656 := n4_; clear n0_ n1_ n2_ n3_ n4_; clear hb hbox hg; have hcz41_0 : w40.cell? ⟨gb656, 0, none⟩ = some (.int .i64 0) := (blk_cell BK656.out 0).trans rfl; have hcz41_1 : w40.cell? ⟨gb656, 1, none⟩ = some (.int .i64 0) := (blk_cell BK656.out 1).trans rfl; have hcz41_2 : w40.cell? ⟨gb656, 2, none⟩ = some (.int .i64 0) := (blk_cell BK656.out 2).trans rfl; have hcz41_3 : w40.cell? ⟨gb656, 3, none⟩ = some (.int .i64 0) := (blk_cell BK656.out 3).trans rfl; have hfz41_0 := blk_frozen BK656.out 0; have hfz41_1 := blk_frozen BK656.out 1; have hfz41_2 := blk_frozen BK656.out 2; have hfz41_3 := blk_frozen BK656.out 3) | ((with_reducible refine gate_callee (f := 38) rfl ?_); refine goesL_ (some 80) rfl rfl Tryd.func38 (by kernel_rfl) rfl #[.agg #[.int .i64 ((rd_T51 l0 x73_2).f1.f0), .int .i64 ((rd_T51 l0 x73_2).f1.f1)]] rfl tm_ ?_; (with_reducible refine (waterhourref04_Known.calls ((rd_T51 l0 x73_2).f1.f0) ((rd_T51 l0 x73_2).f1.f1) false _ A30.out).mono ?_); rintro e w42 ⟨rfl, hb⟩; refine ⟨_, rfl, ?_⟩; have n0_ := a_ (Kd.R_below (by (with_reducible repeat (first | apply Kd.R_alloc | apply Kd.R_drewN | apply Kd.R_drew)); exact (Kd.R_mono (Kd.R_far (p := ⟨gb656, 3, none⟩) (Kd.R_far (p := ⟨gb656, 2, none⟩) (Kd.R_far (p := ⟨gb656, 1, none⟩) (Kd.R_far (p := ⟨gb656, 0, none⟩) (Kd.R_mono HO_11.out (fun k_ hk => (⟨hk, hk.2⟩ : _ ∧ k_ ≠ gb656))) (fun _ hk => hk.2) (.int .i64 ((rd_T51 l0 x73_2).f0.f0))) (fun _ hk => hk.2) (.int .i64 ((rd_T51 l0 x73_2).f0.f1))) (fun _ hk => hk.2) (.int .i64 ((rd_T51 l0 x73_2).f1.f0))) (fun _ hk => hk.2) (.int .i64 ((rd_T51 l0 x73_2).f1.f1))) (fun _ h_ => h_.1))) hb); have n1_ := a_ (blk_below (g := gb656) (o := .cells #[.int .i64 ((rd_T51 l0 x73_2).f0.f0), .int .i64 ((rd_T51 l0 x73_2).f0.f1), .int .i64 ((rd_T51 l0 x73_2).f1.f0), .int .i64 ((rd_T51 l0 x73_2).f1.f1)] 51 (0, 0)) (by (with_reducible repeat (first | refine blk_drewN ?_ _ | refine blk_drew ?_ | refine blk_alloc ?_ _)); refine blk_put (cs := #[.int .i64 ((rd_T51 l0 x73_2).f0.f0), .int .i64 ((rd_T51 l0 x73_2).f0.f1), .int .i64 ((rd_T51 l0 x73_2).f1.f0), .int .i64 0]) ?_ 3 _ rfl; (with_reducible repeat (first | refine blk_drewN ?_ _ | refine blk_drew ?_ | refine blk_alloc ?_ _)); refine blk_put (cs := #[.int .i64 ((rd_T51 l0 x73_2).f0.f0), .int .i64 ((rd_T51 l0 x73_2).f0.f1), .int .i64 0, .int .i64 0]) ?_ 2 _ rfl; (with_reducible repeat (first | refine blk_drewN ?_ _ | refine blk_drew ?_ | refine blk_alloc ?_ _)); refine blk_put (cs := #[.int .i64 ((rd_T51 l0 x73_2).f0.f0), .int .i64 0, .int .i64 0, .int .i64 0]) ?_ 1 _ rfl; (with_reducible repeat (first | refine blk_drewN ?_ _ | refine blk_drew ?_ | refine blk_alloc ?_ _)); refine blk_put (cs := #[.int .i64 0, .int .i64 0, .int .i64 0, .int .i64 0]) ?_ 0 _ rfl; (with_reducible repeat (first | refine blk_drewN ?_ _ | refine blk_drew ?_ | refine blk_alloc ?_ _)); exact BK656.out) hb); have n2_ := a_ (below_step bl_ hb); clear HO_11; clear BK656; clear HB; have HO_11 := n0_; have BK656 := n1_; have HB := n2_; clear n0_ n1_ n2_; (try clear hb); (try clear hb2); (try clear hk); (try clear hi)))
             (try simp only [← hl11_2])
             go_roundg k2
             case measure => have := HJ7.out; have := HK2.out; omega
             case rel => exact ⟨(x11_2), (wrap64 (x73_2 + 1)), (by first | rfl | (simp; done) | (simp [*]; done)), H', ⟨by have := HJ7.out; have := HK2.out; omega⟩, ⟨by (try simp only [hl11_2]); (with_reducible repeat (first | apply Kd.R_alloc | apply Kd.R_drewN | apply Kd.R_drew)); exact Kd.R_mono HO_11.out (fun _ hk => trivial)⟩, ⟨bl_⟩⟩
           ·rw [if_neg c29] at H
            exact absurd H (by simp)
          ·rw [if_neg c28] at H
           exact absurd H (by simp)
         ·rw [if_neg c27] at H
          have c27b0 : decide (x73_2 < (l0.length : Int)) = false := decide_eq_false c27
          clear c27
          replace H := Option.bind_eq_some_iff.mp H
          obtain ⟨t659, A430, H⟩ := H
          replace H : (if t659 = true then ((refill_Time.f k2 l0 a2).bind fun bt660 => ((refill_Time.f k2 x11_2 a2).bind fun bt664 => ((refill_Proof.f l0 a2 false).bind fun bt668 => ((refill_Proof.f x11_2 a2 false).bind fun bt670 => ((refill_Clash.f k2 l0).bind fun bt672 => ((refill_Clash.f k2 x11_2).bind fun bt676 => (if bt660.2.2 = bt664.2.2 then (if bt668.2 = bt670.2 then (if bt672.2.2.2 = 0 then (if bt676.2.2.2 = 0 then (if (bt672.2.2.1 != bt676.2.2.1) = true then (waterhourlaw04_RefillMoved.j2 k2 l0 a1 a3 a4 x11_2 bt660.2.2 bt672.2.2.1 true bt660.1 bt660.2.1 bt664.1 bt664.2.1) else (if bt672.1 = bt676.1 then (if bt672.2.1 = bt676.2.1 then (waterhourlaw04_RefillMoved.j2 k2 l0 a1 a3 a4 x11_2 bt660.2.2 bt672.2.2.1 (bt668.1 != bt670.1) bt660.1 bt660.2.1 bt664.1 bt664.2.1) else (waterhourlaw04_RefillMoved.j2 k2 l0 a1 a3 a4 x11_2 bt660.2.2 bt672.2.2.1 true bt660.1 bt660.2.1 bt664.1 bt664.2.1)) else (waterhourlaw04_RefillMoved.j2 k2 l0 a1 a3 a4 x11_2 bt660.2.2 bt672.2.2.1 true bt660.1 bt660.2.1 bt664.1 bt664.2.1))) else (waterhourlaw04_RefillMoved.j2 k2 l0 a1 a3 a4 x11_2 bt660.2.2 bt672.2.2.1 true bt660.1 bt660.2.1 bt664.1 bt664.2.1)) else (waterhourlaw04_RefillMoved.j2 k2 l0 a1 a3 a4 x11_2 bt660.2.2 bt672.2.2.1 true bt660.1 bt660.2.1 bt664.1 bt664.2.1)) else (waterhourlaw04_RefillMoved.j2 k2 l0 a1 a3 a4 x11_2 bt660.2.2 bt672.2.2.1 true bt660.1 bt660.2.1 bt664.1 bt664.2.1)) else (waterhourlaw04_RefillMoved.j2 k2 l0 a1 a3 a4 x11_2 bt660.2.2 bt672.2.2.1 true bt660.1 bt660.2.1 bt664.1 bt664.2.1)))))))) else (some true)) = some r := H
          have A43 := a_ A430
          clear A430
          by_cases c44 : t659 = true
          ·subst c44
           have H1 : ((refill_Time.f k2 l0 a2).bind fun bt660 => ((refill_Time.f k2 x11_2 a2).bind fun bt664 => ((refill_Proof.f l0 a2 false).bind fun bt668 => ((refill_Proof.f x11_2 a2 false).bind fun bt670 => ((refill_Clash.f k2 l0).bind fun bt672 => ((refill_Clash.f k2 x11_2).bind fun bt676 => (if bt660.2.2 = bt664.2.2 then (if bt668.2 = bt670.2 then (if bt672.2.2.2 = 0 then (if bt676.2.2.2 = 0 then (if (bt672.2.2.1 != bt676.2.2.1) = true then (waterhourlaw04_RefillMoved.j2 k2 l0 a1 a3 a4 x11_2 bt660.2.2 bt672.2.2.1 true bt660.1 bt660.2.1 bt664.1 bt664.2.1) else (if bt672.1 = bt676.1 then (if bt672.2.1 = bt676.2.1 then (waterhourlaw04_RefillMoved.j2 k2 l0 a1 a3 a4 x11_2 bt660.2.2 bt672.2.2.1 (bt668.1 != bt670.1) bt660.1 bt660.2.1 bt664.1 bt664.2.1) else (waterhourlaw04_RefillMoved.j2 k2 l0 a1 a3 a4 x11_2 bt660.2.2 bt672.2.2.1 true bt660.1 bt660.2.1 bt664.1 bt664.2.1)) else (waterhourlaw04_RefillMoved.j2 k2 l0 a1 a3 a4 x11_2 bt660.2.2 bt672.2.2.1 true bt660.1 bt660.2.1 bt664.1 bt664.2.1))) else (waterhourlaw04_RefillMoved.j2 k2 l0 a1 a3 a4 x11_2 bt660.2.2 bt672.2.2.1 true bt660.1 bt660.2.1 bt664.1 bt664.2.1)) else (waterhourlaw04_RefillMoved.j2 k2 l0 a1 a3 a4 x11_2 bt660.2.2 bt672.2.2.1 true bt660.1 bt660.2.1 bt664.1 bt664.2.1)) else (waterhourlaw04_RefillMoved.j2 k2 l0 a1 a3 a4 x11_2 bt660.2.2 bt672.2.2.1 true bt660.1 bt660.2.1 bt664.1 bt664.2.1)) else (waterhourlaw04_RefillMoved.j2 k2 l0 a1 a3 a4 x11_2 bt660.2.2 bt672.2.2.1 true bt660.1 bt660.2.1 bt664.1 bt664.2.1)))))))) = some r := by rw [if_pos rfl] at H; exact H
           clear H
           have H := H1
           clear H1
           replace H := Option.bind_eq_some_iff.mp H
           obtain ⟨⟨t660, t661, t662⟩, A450, H⟩ := H
           replace H : ((refill_Time.f k2 x11_2 a2).bind fun bt664 => ((refill_Proof.f l0 a2 false).bind fun bt668 => ((refill_Proof.f x11_2 a2 false).bind fun bt670 => ((refill_Clash.f k2 l0).bind fun bt672 => ((refill_Clash.f k2 x11_2).bind fun bt676 => (if t662 = bt664.2.2 then (if bt668.2 = bt670.2 then (if bt672.2.2.2 = 0 then (if bt676.2.2.2 = 0 then (if (bt672.2.2.1 != bt676.2.2.1) = true then (waterhourlaw04_RefillMoved.j2 k2 l0 a1 a3 a4 x11_2 t662 bt672.2.2.1 true t660 t661 bt664.1 bt664.2.1) else (if bt672.1 = bt676.1 then (if bt672.2.1 = bt676.2.1 then (waterhourlaw04_RefillMoved.j2 k2 l0 a1 a3 a4 x11_2 t662 bt672.2.2.1 (bt668.1 != bt670.1) t660 t661 bt664.1 bt664.2.1) else (waterhourlaw04_RefillMoved.j2 k2 l0 a1 a3 a4 x11_2 t662 bt672.2.2.1 true t660 t661 bt664.1 bt664.2.1)) else (waterhourlaw04_RefillMoved.j2 k2 l0 a1 a3 a4 x11_2 t662 bt672.2.2.1 true t660 t661 bt664.1 bt664.2.1))) else (waterhourlaw04_RefillMoved.j2 k2 l0 a1 a3 a4 x11_2 t662 bt672.2.2.1 true t660 t661 bt664.1 bt664.2.1)) else (waterhourlaw04_RefillMoved.j2 k2 l0 a1 a3 a4 x11_2 t662 bt672.2.2.1 true t660 t661 bt664.1 bt664.2.1)) else (waterhourlaw04_RefillMoved.j2 k2 l0 a1 a3 a4 x11_2 t662 bt672.2.2.1 true t660 t661 bt664.1 bt664.2.1)) else (waterhourlaw04_RefillMoved.j2 k2 l0 a1 a3 a4 x11_2 t662 bt672.2.2.1 true t660 t661 bt664.1 bt664.2.1))))))) = some r := H
           have A45 := a_ A450
           clear A450
           replace H := Option.bind_eq_some_iff.mp H
           obtain ⟨⟨t664, t665, t666⟩, A460, H⟩ := H
           replace H : ((refill_Proof.f l0 a2 false).bind fun bt668 => ((refill_Proof.f x11_2 a2 false).bind fun bt670 => ((refill_Clash.f k2 l0).bind fun bt672 => ((refill_Clash.f k2 x11_2).bind fun bt676 => (if t662 = t666 then (if bt668.2 = bt670.2 then (if bt672.2.2.2 = 0 then (if bt676.2.2.2 = 0 then (if (bt672.2.2.1 != bt676.2.2.1) = true then (waterhourlaw04_RefillMoved.j2 k2 l0 a1 a3 a4 x11_2 t662 bt672.2.2.1 true t660 t661 t664 t665) else (if bt672.1 = bt676.1 then (if bt672.2.1 = bt676.2.1 then (waterhourlaw04_RefillMoved.j2 k2 l0 a1 a3 a4 x11_2 t662 bt672.2.2.1 (bt668.1 != bt670.1) t660 t661 t664 t665) else (waterhourlaw04_RefillMoved.j2 k2 l0 a1 a3 a4 x11_2 t662 bt672.2.2.1 true t660 t661 t664 t665)) else (waterhourlaw04_RefillMoved.j2 k2 l0 a1 a3 a4 x11_2 t662 bt672.2.2.1 true t660 t661 t664 t665))) else (waterhourlaw04_RefillMoved.j2 k2 l0 a1 a3 a4 x11_2 t662 bt672.2.2.1 true t660 t661 t664 t665)) else (waterhourlaw04_RefillMoved.j2 k2 l0 a1 a3 a4 x11_2 t662 bt672.2.2.1 true t660 t661 t664 t665)) else (waterhourlaw04_RefillMoved.j2 k2 l0 a1 a3 a4 x11_2 t662 bt672.2.2.1 true t660 t661 t664 t665)) else (waterhourlaw04_RefillMoved.j2 k2 l0 a1 a3 a4 x11_2 t662 bt672.2.2.1 true t660 t661 t664 t665)))))) = some r := H
           have A46 := a_ A460
           clear A460
           replace H := Option.bind_eq_some_iff.mp H
           obtain ⟨⟨t668, t669⟩, A470, H⟩ := H
           replace H : ((refill_Proof.f x11_2 a2 false).bind fun bt670 => ((refill_Clash.f k2 l0).bind fun bt672 => ((refill_Clash.f k2 x11_2).bind fun bt676 => (if t662 = t666 then (if t669 = bt670.2 then (if bt672.2.2.2 = 0 then (if bt676.2.2.2 = 0 then (if (bt672.2.2.1 != bt676.2.2.1) = true then (waterhourlaw04_RefillMoved.j2 k2 l0 a1 a3 a4 x11_2 t662 bt672.2.2.1 true t660 t661 t664 t665) else (if bt672.1 = bt676.1 then (if bt672.2.1 = bt676.2.1 then (waterhourlaw04_RefillMoved.j2 k2 l0 a1 a3 a4 x11_2 t662 bt672.2.2.1 (t668 != bt670.1) t660 t661 t664 t665) else (waterhourlaw04_RefillMoved.j2 k2 l0 a1 a3 a4 x11_2 t662 bt672.2.2.1 true t660 t661 t664 t665)) else (waterhourlaw04_RefillMoved.j2 k2 l0 a1 a3 a4 x11_2 t662 bt672.2.2.1 true t660 t661 t664 t665))) else (waterhourlaw04_RefillMoved.j2 k2 l0 a1 a3 a4 x11_2 t662 bt672.2.2.1 true t660 t661 t664 t665)) else (waterhourlaw04_RefillMoved.j2 k2 l0 a1 a3 a4 x11_2 t662 bt672.2.2.1 true t660 t661 t664 t665)) else (waterhourlaw04_RefillMoved.j2 k2 l0 a1 a3 a4 x11_2 t662 bt672.2.2.1 true t660 t661 t664 t665)) else (waterhourlaw04_RefillMoved.j2 k2 l0 a1 a3 a4 x11_2 t662 bt672.2.2.1 true t660 t661 t664 t665))))) = some r := H
           have A47 := a_ A470
           clear A470
           replace H := Option.bind_eq_some_iff.mp H
           obtain ⟨⟨t670, t671⟩, A480, H⟩ := H
           replace H : ((refill_Clash.f k2 l0).bind fun bt672 => ((refill_Clash.f k2 x11_2).bind fun bt676 => (if t662 = t666 then (if t669 = t671 then (if bt672.2.2.2 = 0 then (if bt676.2.2.2 = 0 then (if (bt672.2.2.1 != bt676.2.2.1) = true then (waterhourlaw04_RefillMoved.j2 k2 l0 a1 a3 a4 x11_2 t662 bt672.2.2.1 true t660 t661 t664 t665) else (if bt672.1 = bt676.1 then (if bt672.2.1 = bt676.2.1 then (waterhourlaw04_RefillMoved.j2 k2 l0 a1 a3 a4 x11_2 t662 bt672.2.2.1 (t668 != t670) t660 t661 t664 t665) else (waterhourlaw04_RefillMoved.j2 k2 l0 a1 a3 a4 x11_2 t662 bt672.2.2.1 true t660 t661 t664 t665)) else (waterhourlaw04_RefillMoved.j2 k2 l0 a1 a3 a4 x11_2 t662 bt672.2.2.1 true t660 t661 t664 t665))) else (waterhourlaw04_RefillMoved.j2 k2 l0 a1 a3 a4 x11_2 t662 bt672.2.2.1 true t660 t661 t664 t665)) else (waterhourlaw04_RefillMoved.j2 k2 l0 a1 a3 a4 x11_2 t662 bt672.2.2.1 true t660 t661 t664 t665)) else (waterhourlaw04_RefillMoved.j2 k2 l0 a1 a3 a4 x11_2 t662 bt672.2.2.1 true t660 t661 t664 t665)) else (waterhourlaw04_RefillMoved.j2 k2 l0 a1 a3 a4 x11_2 t662 bt672.2.2.1 true t660 t661 t664 t665)))) = some r := H
           have A48 := a_ A480
           clear A480
           replace H := Option.bind_eq_some_iff.mp H
           obtain ⟨⟨t672, t673, t674, t675⟩, A490, H⟩ := H
           replace H : ((refill_Clash.f k2 x11_2).bind fun bt676 => (if t662 = t666 then (if t669 = t671 then (if t675 = 0 then (if bt676.2.2.2 = 0 then (if (t674 != bt676.2.2.1) = true then (waterhourlaw04_RefillMoved.j2 k2 l0 a1 a3 a4 x11_2 t662 t674 true t660 t661 t664 t665) else (if t672 = bt676.1 then (if t673 = bt676.2.1 then (waterhourlaw04_RefillMoved.j2 k2 l0 a1 a3 a4 x11_2 t662 t674 (t668 != t670) t660 t661 t664 t665) else (waterhourlaw04_RefillMoved.j2 k2 l0 a1 a3 a4 x11_2 t662 t674 true t660 t661 t664 t665)) else (waterhourlaw04_RefillMoved.j2 k2 l0 a1 a3 a4 x11_2 t662 t674 true t660 t661 t664 t665))) else (waterhourlaw04_RefillMoved.j2 k2 l0 a1 a3 a4 x11_2 t662 t674 true t660 t661 t664 t665)) else (waterhourlaw04_RefillMoved.j2 k2 l0 a1 a3 a4 x11_2 t662 t674 true t660 t661 t664 t665)) else (waterhourlaw04_RefillMoved.j2 k2 l0 a1 a3 a4 x11_2 t662 t674 true t660 t661 t664 t665)) else (waterhourlaw04_RefillMoved.j2 k2 l0 a1 a3 a4 x11_2 t662 t674 true t660 t661 t664 t665))) = some r := H
           have A49 := a_ A490
           clear A490
           replace H := Option.bind_eq_some_iff.mp H
           obtain ⟨⟨t676, t677, t678, t679⟩, A500, H⟩ := H
           replace H : (if t662 = t666 then (if t669 = t671 then (if t675 = 0 then (if t679 = 0 then (if (t674 != t678) = true then (waterhourlaw04_RefillMoved.j2 k2 l0 a1 a3 a4 x11_2 t662 t674 true t660 t661 t664 t665) else (if t672 = t676 then (if t673 = t677 then (waterhourlaw04_RefillMoved.j2 k2 l0 a1 a3 a4 x11_2 t662 t674 (t668 != t670) t660 t661 t664 t665) else (waterhourlaw04_RefillMoved.j2 k2 l0 a1 a3 a4 x11_2 t662 t674 true t660 t661 t664 t665)) else (waterhourlaw04_RefillMoved.j2 k2 l0 a1 a3 a4 x11_2 t662 t674 true t660 t661 t664 t665))) else (waterhourlaw04_RefillMoved.j2 k2 l0 a1 a3 a4 x11_2 t662 t674 true t660 t661 t664 t665)) else (waterhourlaw04_RefillMoved.j2 k2 l0 a1 a3 a4 x11_2 t662 t674 true t660 t661 t664 t665)) else (waterhourlaw04_RefillMoved.j2 k2 l0 a1 a3 a4 x11_2 t662 t674 true t660 t661 t664 t665)) else (waterhourlaw04_RefillMoved.j2 k2 l0 a1 a3 a4 x11_2 t662 t674 true t660 t661 t664 t665)) = some r := H
           have A50 := a_ A500
           clear A500
           have HC51 := a_ H
           clear H
           go_upto_region 21 with (first | ((with_reducible refine gate_callee (f := 31) rfl ?_); refine goesL_ (some 98) rfl rfl Tryd.func31 (by kernel_rfl) rfl #[.slice (some ⟨go23, 0, none⟩) x11_2.length co23] rfl tm_ ?_; (with_reducible refine (waterhourref04_Valid.calls k2 _ _ x11_2 true _ ?side1 ?side2 A43.out).mono ?_); (case side1 => exact cl_ ((Kd.R_reads' HO_11.out).2.2)); (case side2 => exact (Kd.R_reads' HO_11.out).2.1); rintro e w52 ⟨rfl, hb⟩; refine ⟨_, rfl, ?_⟩; have n0_ := a_ (Kd.R_below (rl_ HO_11.out) hb); have n1_ := a_ (below_step bl_ hb); clear HO_11; clear HB; have HO_11 := n0_; have HB := n1_; clear n0_ n1_; (try clear hb); (try clear hb2); (try clear hk); (try clear hi)) | ((with_reducible refine gate_callee (f := 43) rfl ?_); refine goesL_ (some 103) rfl rfl Tryd.func43 (by kernel_rfl) rfl #[.slice (some ad652) l0.length c0, .int .i64 a2] rfl tm_ ?_; (with_reducible refine (refill_Time.calls k2 _ _ l0 a2 t660 t661 t662 _ ?side1 ?side2 A45.out).mono ?_); (case side1 => exact cl_ (Kd.C_below HR0.out HB.out)); (case side2 => exact HC0.out); rintro e w53 ⟨rfl, hb⟩; refine ⟨_, rfl, ?_⟩; have n0_ := a_ (Kd.R_below (rl_ HO_11.out) hb); have n1_ := a_ (below_step bl_ hb); clear HO_11; clear HB; have HO_11 := n0_; have HB := n1_; clear n0_ n1_; (try clear hb); (try clear hb2); (try clear hk); (try clear hi)) | ((with_reducible refine gate_dst (N := 14) rfl ?_); refine box_event ?hg (N := 14) ?hd (cs := #[.int .i64 0, .int .i64 0]) (t := 49) ?hr ?_; (case hd => rfl); (case hg => rfl); (case hr => first | (go_simp; done) | (go_simp; rfl)); intro gb663 hg w54 hbox hb; have n0_ := a_ (Kd.R_below (rl_ HO_11.out) hb); have n1_ := a_ (below_step bl_ hb); have n2_ := a_ (hbox); have n3_ := a_ ((bz_ (w := w) hg)); have n4_ := a_ ((bz_ (w := w) hg)); clear HO_11; clear HB; have HO_11 := n0_; have HB := n1_; have BK663 := n2_; have GW663 := n3_; have GE663 := n4_; clear n0_ n1_ n2_ n3_ n4_; clear hb hbox hg; have hcz55_0 : w54.cell? ⟨gb663, 0, none⟩ = some (.int .i64 0) := (blk_cell BK663.out 0).trans rfl; have hcz55_1 : w54.cell? ⟨gb663, 1, none⟩ = some (.int .i64 0) := (blk_cell BK663.out 1).trans rfl; have hfz55_0 := blk_frozen BK663.out 0; have hfz55_1 := blk_frozen BK663.out 1) | ((with_reducible refine gate_callee (f := 43) rfl ?_); refine goesL_ (some 109) rfl rfl Tryd.func43 (by kernel_rfl) rfl #[.slice (some ⟨go23, 0, none⟩) x11_2.length co23, .int .i64 a2] rfl tm_ ?_; (with_reducible refine (refill_Time.calls k2 _ _ x11_2 a2 t664 t665 t666 _ ?side1 ?side2 A46.out).mono ?_); (case side1 => refine (Kd.R_reads' (e := 51) (base := w.heap.size) (ok := fun k_ => True) (n := x11_2.length) (c := co23) ?_).2.2; exact (rl_ (Kd.R_mono (Kd.R_far (p := ⟨gb663, 1, none⟩) (Kd.R_far (p := ⟨gb663, 0, none⟩) (Kd.R_types HO_11.out BK663.out (by decide)) (fun _ hk => hk.2) (.int .i64 t660)) (fun _ hk => hk.2) (.int .i64 t661)) (fun _ h_ => h_.1)))); (case side2 => exact (Kd.R_reads' HO_11.out).2.1); rintro e w56 ⟨rfl, hb⟩; refine ⟨_, rfl, ?_⟩; have n0_ := a_ (Kd.R_below (rl_ (Kd.R_mono (Kd.R_far (p := ⟨gb663, 1, none⟩) (Kd.R_far (p := ⟨gb663, 0, none⟩) (Kd.R_types HO_11.out BK663.out (by decide)) (fun _ hk => hk.2) (.int .i64 t660)) (fun _ hk => hk.2) (.int .i64 t661)) (fun _ h_ => h_.1))) hb); have n1_ := a_ (blk_below (g := gb663) (o := .cells #[.int .i64 t660, .int .i64 t661] 49 (0, 0)) (by (with_reducible repeat (first | refine blk_drewN ?_ _ | refine blk_drew ?_ | refine blk_alloc ?_ _)); refine blk_put (cs := #[.int .i64 t660, .int .i64 0]) ?_ 1 _ rfl; (with_reducible repeat (first | refine blk_drewN ?_ _ | refine blk_drew ?_ | refine blk_alloc ?_ _)); refine blk_put (cs := #[.int .i64 0, .int .i64 0]) ?_ 0 _ rfl; (with_reducible repeat (first | refine blk_drewN ?_ _ | refine blk_drew ?_ | refine blk_alloc ?_ _)); exact BK663.out) hb); have n2_ := a_ (below_step bl_ hb); clear HO_11; clear BK663; clear HB; have HO_11 := n0_; have BK663 := n1_; have HB := n2_; clear n0_ n1_ n2_; (try clear hb); (try clear hb2); (try clear hk); (try clear hi)) | ((with_reducible refine gate_dst (N := 16) rfl ?_); refine box_event ?hg (N := 16) ?hd (cs := #[.int .i64 0, .int .i64 0]) (t := 49) ?hr ?_; (case hd => rfl); (case hg => rfl); (case hr => first | (go_simp; done) | (go_simp; rfl)); intro gb667 hg w57 hbox hb; have n0_ := a_ (Kd.R_below (rl_ HO_11.out) hb); have n1_ := a_ (bb_ BK663.out hb); have n2_ := a_ (below_step bl_ hb); have n3_ := a_ (hbox); have n4_ := a_ ((bz_ (w := w) hg)); have n5_ := a_ ((bz_ (w := w) hg)); have n6_ := a_ ((nl_ BK663.out hg)); have n7_ := a_ ((ng_ BK663.out hg)); clear HO_11; clear BK663; clear HB; have HO_11 := n0_; have BK663 := n1_; have HB := n2_; have BK667 := n3_; have GW667 := n4_; have GE667 := n5_; have NB663_667 := n6_; have NB667_663 := n7_; clear n0_ n1_ n2_ n3_ n4_ n5_ n6_ n7_; clear hb hbox hg; have hnb58 := NB667_663.out; have hnc58 := NB663_667.out; have hcz59_0 : w57.cell? ⟨gb667, 0, none⟩ = some (.int .i64 0) := (blk_cell BK667.out 0).trans rfl; have hcz59_1 : w57.cell? ⟨gb667, 1, none⟩ = some (.int .i64 0) := (blk_cell BK667.out 1).trans rfl; have hfz59_0 := blk_frozen BK667.out 0; have hfz59_1 := blk_frozen BK667.out 1) | ((with_reducible refine gate_callee (f := 27) rfl ?_); refine goesL_ (some 115) rfl rfl Tryd.func27 (by kernel_rfl) rfl #[.slice (some ad652) l0.length c0, .int .i64 a2, .bool false] rfl tm_ ?_; (with_reducible refine (refill_Proof.calls _ _ l0 a2 false t668 t669 _ ?side1 ?side2 A47.out).mono ?_); (case side1 => exact Kd.C_below HR0.out bl_); (case side2 => exact HC0.out); rintro e w60 ⟨rfl, hb⟩; refine ⟨_, rfl, ?_⟩; have n0_ := a_ (Kd.R_below (rl_ (Kd.R_mono (Kd.R_far (p := ⟨gb667, 1, none⟩) (Kd.R_far (p := ⟨gb667, 0, none⟩) (Kd.R_types HO_11.out BK667.out (by decide)) (fun _ hk => hk.2) (.int .i64 t664)) (fun _ hk => hk.2) (.int .i64 t665)) (fun _ h_ => h_.1))) hb); have n1_ := a_ (blk_below (g := gb663) (o := .cells #[.int .i64 t660, .int .i64 t661] 49 (0, 0)) (by (with_reducible repeat (first | refine blk_drewN ?_ _ | refine blk_drew ?_ | refine blk_alloc ?_ _)); refine blk_far ?_ NB663_667.out _; (with_reducible repeat (first | refine blk_drewN ?_ _ | refine blk_drew ?_ | refine blk_alloc ?_ _)); refine blk_far ?_ NB663_667.out _; (with_reducible repeat (first | refine blk_drewN ?_ _ | refine blk_drew ?_ | refine blk_alloc ?_ _)); exact BK663.out) hb); have n2_ := a_ (blk_below (g := gb667) (o := .cells #[.int .i64 t664, .int .i64 t665] 49 (0, 0)) (by (with_reducible repeat (first | refine blk_drewN ?_ _ | refine blk_drew ?_ | refine blk_alloc ?_ _)); refine blk_put (cs := #[.int .i64 t664, .int .i64 0]) ?_ 1 _ rfl; (with_reducible repeat (first | refine blk_drewN ?_ _ | refine blk_drew ?_ | refine blk_alloc ?_ _)); refine blk_put (cs := #[.int .i64 0, .int .i64 0]) ?_ 0 _ rfl; (with_reducible repeat (first | refine blk_drewN ?_ _ | refine blk_drew ?_ | refine blk_alloc ?_ _)); exact BK667.out) hb); have n3_ := a_ (below_step bl_ hb); clear HO_11; clear BK663; clear BK667; clear HB; have HO_11 := n0_; have BK663 := n1_; have BK667 := n2_; have HB := n3_; clear n0_ n1_ n2_ n3_; (try clear hb); (try clear hb2); (try clear hk); (try clear hi)) | ((with_reducible refine gate_callee (f := 27) rfl ?_); refine goesL_ (some 121) rfl rfl Tryd.func27 (by kernel_rfl) rfl #[.slice (some ⟨go23, 0, none⟩) x11_2.length co23, .int .i64 a2, .bool false] rfl tm_ ?_; (with_reducible refine (refill_Proof.calls _ _ x11_2 a2 false t670 t671 _ ?side1 ?side2 A48.out).mono ?_); (case side1 => exact cl_ ((Kd.R_reads' HO_11.out).2.2)); (case side2 => exact (Kd.R_reads' HO_11.out).2.1); rintro e w61 ⟨rfl, hb⟩; refine ⟨_, rfl, ?_⟩; have n0_ := a_ (Kd.R_below (rl_ HO_11.out) hb); have n1_ := a_ (bb_ BK663.out hb); have n2_ := a_ (bb_ BK667.out hb); have n3_ := a_ (below_step bl_ hb); clear HO_11; clear BK663; clear BK667; clear HB; have HO_11 := n0_; have BK663 := n1_; have BK667 := n2_; have HB := n3_; clear n0_ n1_ n2_ n3_; (try clear hb); (try clear hb2); (try clear hk); (try clear hi)) | ((with_reducible refine gate_callee (f := 23) rfl ?_); refine goesL_ (some 126) rfl rfl Tryd.func23 (by kernel_rfl) rfl #[.slice (some ad652) l0.length c0] rfl tm_ ?_; (with_reducible refine (refill_Clash.calls k2 _ _ l0 t672 t673 t674 t675 _ ?side1 ?side2 A49.out).mono ?_); (case side1 => exact cl_ (Kd.C_below HR0.out HB.out)); (case side2 => exact HC0.out); rintro e w62 ⟨rfl, hb⟩; refine ⟨_, rfl, ?_⟩; have n0_ := a_ (Kd.R_below (rl_ HO_11.out) hb); have n1_ := a_ (bb_ BK663.out hb); have n2_ := a_ (bb_ BK667.out hb); have n3_ := a_ (below_step bl_ hb); clear HO_11; clear BK663; clear BK667; clear HB; have HO_11 := n0_; have BK663 := n1_; have BK667 := n2_; have HB := n3_; clear n0_ n1_ n2_ n3_; (try clear hb); (try clear hb2); (try clear hk); (try clear hi)) | ((with_reducible refine gate_callee (f := 23) rfl ?_); refine goesL_ (some 133) rfl rfl Tryd.func23 (by kernel_rfl) rfl #[.slice (some ⟨go23, 0, none⟩) x11_2.length co23] rfl tm_ ?_; (with_reducible refine (refill_Clash.calls k2 _ _ x11_2 t676 t677 t678 t679 _ ?side1 ?side2 A50.out).mono ?_); (case side1 => exact cl_ ((Kd.R_reads' HO_11.out).2.2)); (case side2 => exact (Kd.R_reads' HO_11.out).2.1); rintro e w63 ⟨rfl, hb⟩; refine ⟨_, rfl, ?_⟩; have n0_ := a_ (Kd.R_below (rl_ HO_11.out) hb); have n1_ := a_ (bb_ BK663.out hb); have n2_ := a_ (bb_ BK667.out hb); have n3_ := a_ (below_step bl_ hb); clear HO_11; clear BK663; clear BK667; clear HB; have HO_11 := n0_; have BK663 := n1_; have BK667 := n2_; have HB := n3_; clear n0_ n1_ n2_ n3_; (try clear hb); (try clear hb2); (try clear hk); (try clear hi)))
           (try simp only [Act.put, List.setIfInBounds_toArray, List.set_cons_zero, List.set_cons_succ])
           go_cut [173] (fun v173 wc => ∃ (kq : Nat) (x173_50 : Bool), v173 = .bool x173_50 ∧ Aside0 (waterhourlaw04_RefillMoved.j2 kq l0 a1 a3 a4 x11_2 t662 t674 x173_50 t660 t661 t664 t665 = some r) ∧ Aside0 (kq ≤ k2) ∧ Aside0 (Kd.R k51 51 wc w.heap.size (fun _ => True) (.slice (some ⟨go23, 0, none⟩) x11_2.length co23) x11_2) ∧ Aside0 (wc.heap[gb663]? = some (.cells #[.int .i64 t660, .int .i64 t661] 49 (0, 0))) ∧ Aside0 (wc.heap[gb667]? = some (.cells #[.int .i64 t664, .int .i64 t665] 49 (0, 0))) ∧ Aside0 (Below w.heap.size w wc))
           case first => as_aux_lemma =>
            have H := HC51.out
            clear HC51
            by_cases c64 : t662 = t666
            ·rw [if_pos c64] at H
             have c64b0 : (t662 == t666) = true := beq_iff_eq.mpr c64
             have c64b1 : (t662 != t666) = false := bne_eq_false_iff_eq.mpr c64
             clear c64
             (first | rw [c64b0] | (simp only [i64_w, i32_w]; rw [c64b0]) | skip)
             by_cases c65 : t669 = t671
             ·rw [if_pos c65] at H
              have c65b0 : (t669 == t671) = true := beq_iff_eq.mpr c65
              have c65b1 : (t669 != t671) = false := bne_eq_false_iff_eq.mpr c65
              clear c65
              by_cases c66 : t675 = 0
              ·rw [if_pos c66] at H
               have c66b0 : (t675 == 0) = true := beq_iff_eq.mpr c66
               have c66b1 : (t675 != 0) = false := bne_eq_false_iff_eq.mpr c66
               clear c66
               by_cases c67 : t679 = 0
               ·rw [if_pos c67] at H
                have c67b0 : (t679 == 0) = true := beq_iff_eq.mpr c67
                have c67b1 : (t679 != 0) = false := bne_eq_false_iff_eq.mpr c67
                clear c67
                by_cases c68 : (t674 != t678) = true
                ·rw [if_pos c68] at H
                 have c68b0 : (t674 != t678) = true := c68
                 (try (have c68b1 : decide (t674 = t678) = false := by simpa using c68))
                 (try (have c68b2 : (t674 == t678) = false := by simpa using c68))
                 (try (have c68b3 : ¬ (t674 = t678) := by simpa using c68))
                 clear c68
                 have H' := a_ H
                 clear H
                 go_wp2
                 go_meet
                 case rel => exact ⟨_, (true), (by first | rfl | (simp; done) | (simp [*]; done)), H', ⟨by have := HJ7.out; have := HK2.out; first | omega | exact Nat.le_refl _⟩, ⟨by (try simp only [hl11_2]); (with_reducible repeat (first | apply Kd.R_alloc | apply Kd.R_drewN | apply Kd.R_drew)); exact HO_11.out⟩, ⟨by (try simp only [hl11_2]); (with_reducible repeat (first | refine blk_drewN ?_ _ | refine blk_drew ?_ | refine blk_alloc ?_ _)); exact BK663.out⟩, ⟨by (try simp only [hl11_2]); (with_reducible repeat (first | refine blk_drewN ?_ _ | refine blk_drew ?_ | refine blk_alloc ?_ _)); exact BK667.out⟩, ⟨bl_⟩⟩
                ·rw [if_neg c68] at H
                 have c68b0 : (t674 != t678) = false := by simpa using c68
                 (try (have c68b1 : decide (t674 = t678) = true := by simpa using c68))
                 (try (have c68b2 : (t674 == t678) = true := by simpa using c68))
                 clear c68
                 by_cases c69 : t672 = t676
                 ·rw [if_pos c69] at H
                  have c69b0 : (t672 == t676) = true := beq_iff_eq.mpr c69
                  have c69b1 : (t672 != t676) = false := bne_eq_false_iff_eq.mpr c69
                  clear c69
                  by_cases c70 : t673 = t677
                  ·rw [if_pos c70] at H
                   have c70b0 : (t673 == t677) = true := beq_iff_eq.mpr c70
                   have c70b1 : (t673 != t677) = false := bne_eq_false_iff_eq.mpr c70
                   clear c70
                   have H' := a_ H
                   clear H
                   go_wp2
                   go_meet
                   case rel => exact ⟨_, ((t668 != t670)), (by first | rfl | (simp; done) | (simp [*]; done)), H', ⟨by have := HJ7.out; have := HK2.out; first | omega | exact Nat.le_refl _⟩, ⟨by (try simp only [hl11_2]); (with_reducible repeat (first | apply Kd.R_alloc | apply Kd.R_drewN | apply Kd.R_drew)); exact HO_11.out⟩, ⟨by (try simp only [hl11_2]); (with_reducible repeat (first | refine blk_drewN ?_ _ | refine blk_drew ?_ | refine blk_alloc ?_ _)); exact BK663.out⟩, ⟨by (try simp only [hl11_2]); (with_reducible repeat (first | refine blk_drewN ?_ _ | refine blk_drew ?_ | refine blk_alloc ?_ _)); exact BK667.out⟩, ⟨bl_⟩⟩
                  ·rw [if_neg c70] at H
                   have c70b0 : (t673 == t677) = false := beq_eq_false_iff_ne.mpr c70
                   have c70b1 : (t673 != t677) = true := bne_iff_ne.mpr c70
                   have H' := a_ H
                   clear H
                   go_wp2
                   go_meet
                   case rel => exact ⟨_, (true), (by first | rfl | (simp; done) | (simp [*]; done)), H', ⟨by have := HJ7.out; have := HK2.out; first | omega | exact Nat.le_refl _⟩, ⟨by (try simp only [hl11_2]); (with_reducible repeat (first | apply Kd.R_alloc | apply Kd.R_drewN | apply Kd.R_drew)); exact HO_11.out⟩, ⟨by (try simp only [hl11_2]); (with_reducible repeat (first | refine blk_drewN ?_ _ | refine blk_drew ?_ | refine blk_alloc ?_ _)); exact BK663.out⟩, ⟨by (try simp only [hl11_2]); (with_reducible repeat (first | refine blk_drewN ?_ _ | refine blk_drew ?_ | refine blk_alloc ?_ _)); exact BK667.out⟩, ⟨bl_⟩⟩
                 ·rw [if_neg c69] at H
                  have c69b0 : (t672 == t676) = false := beq_eq_false_iff_ne.mpr c69
                  have c69b1 : (t672 != t676) = true := bne_iff_ne.mpr c69
                  have H' := a_ H
                  clear H
                  go_wp2
                  go_meet
                  case rel => exact ⟨_, (true), (by first | rfl | (simp; done) | (simp [*]; done)), H', ⟨by have := HJ7.out; have := HK2.out; first | omega | exact Nat.le_refl _⟩, ⟨by (try simp only [hl11_2]); (with_reducible repeat (first | apply Kd.R_alloc | apply Kd.R_drewN | apply Kd.R_drew)); exact HO_11.out⟩, ⟨by (try simp only [hl11_2]); (with_reducible repeat (first | refine blk_drewN ?_ _ | refine blk_drew ?_ | refine blk_alloc ?_ _)); exact BK663.out⟩, ⟨by (try simp only [hl11_2]); (with_reducible repeat (first | refine blk_drewN ?_ _ | refine blk_drew ?_ | refine blk_alloc ?_ _)); exact BK667.out⟩, ⟨bl_⟩⟩
               ·rw [if_neg c67] at H
                have c67b0 : (t679 == 0) = false := beq_eq_false_iff_ne.mpr c67
                have c67b1 : (t679 != 0) = true := bne_iff_ne.mpr c67
                have H' := a_ H
                clear H
                go_wp2
                go_meet
                case rel => exact ⟨_, (true), (by first | rfl | (simp; done) | (simp [*]; done)), H', ⟨by have := HJ7.out; have := HK2.out; first | omega | exact Nat.le_refl _⟩, ⟨by (try simp only [hl11_2]); (with_reducible repeat (first | apply Kd.R_alloc | apply Kd.R_drewN | apply Kd.R_drew)); exact HO_11.out⟩, ⟨by (try simp only [hl11_2]); (with_reducible repeat (first | refine blk_drewN ?_ _ | refine blk_drew ?_ | refine blk_alloc ?_ _)); exact BK663.out⟩, ⟨by (try simp only [hl11_2]); (with_reducible repeat (first | refine blk_drewN ?_ _ | refine blk_drew ?_ | refine blk_alloc ?_ _)); exact BK667.out⟩, ⟨bl_⟩⟩
              ·rw [if_neg c66] at H
               have c66b0 : (t675 == 0) = false := beq_eq_false_iff_ne.mpr c66
               have c66b1 : (t675 != 0) = true := bne_iff_ne.mpr c66
               have H' := a_ H
               clear H
               go_wp2
               go_meet
               case rel => exact ⟨_, (true), (by first | rfl | (simp; done) | (simp [*]; done)), H', ⟨by have := HJ7.out; have := HK2.out; first | omega | exact Nat.le_refl _⟩, ⟨by (try simp only [hl11_2]); (with_reducible repeat (first | apply Kd.R_alloc | apply Kd.R_drewN | apply Kd.R_drew)); exact HO_11.out⟩, ⟨by (try simp only [hl11_2]); (with_reducible repeat (first | refine blk_drewN ?_ _ | refine blk_drew ?_ | refine blk_alloc ?_ _)); exact BK663.out⟩, ⟨by (try simp only [hl11_2]); (with_reducible repeat (first | refine blk_drewN ?_ _ | refine blk_drew ?_ | refine blk_alloc ?_ _)); exact BK667.out⟩, ⟨bl_⟩⟩
             ·rw [if_neg c65] at H
              have c65b0 : (t669 == t671) = false := beq_eq_false_iff_ne.mpr c65
              have c65b1 : (t669 != t671) = true := bne_iff_ne.mpr c65
              have H' := a_ H
              clear H
              go_wp2
              go_meet
              case rel => exact ⟨_, (true), (by first | rfl | (simp; done) | (simp [*]; done)), H', ⟨by have := HJ7.out; have := HK2.out; first | omega | exact Nat.le_refl _⟩, ⟨by (try simp only [hl11_2]); (with_reducible repeat (first | apply Kd.R_alloc | apply Kd.R_drewN | apply Kd.R_drew)); exact HO_11.out⟩, ⟨by (try simp only [hl11_2]); (with_reducible repeat (first | refine blk_drewN ?_ _ | refine blk_drew ?_ | refine blk_alloc ?_ _)); exact BK663.out⟩, ⟨by (try simp only [hl11_2]); (with_reducible repeat (first | refine blk_drewN ?_ _ | refine blk_drew ?_ | refine blk_alloc ?_ _)); exact BK667.out⟩, ⟨bl_⟩⟩
            ·rw [if_neg c64] at H
             have c64b0 : (t662 == t666) = false := beq_eq_false_iff_ne.mpr c64
             have c64b1 : (t662 != t666) = true := bne_iff_ne.mpr c64
             (first | rw [c64b0] | (simp only [i64_w, i32_w]; rw [c64b0]) | skip)
             have H' := a_ H
             clear H
             go_wp2
             go_meet
             case rel => exact ⟨_, (true), (by first | rfl | (simp; done) | (simp [*]; done)), H', ⟨by have := HJ7.out; have := HK2.out; first | omega | exact Nat.le_refl _⟩, ⟨by (try simp only [hl11_2]); (with_reducible repeat (first | apply Kd.R_alloc | apply Kd.R_drewN | apply Kd.R_drew)); exact HO_11.out⟩, ⟨by (try simp only [hl11_2]); (with_reducible repeat (first | refine blk_drewN ?_ _ | refine blk_drew ?_ | refine blk_alloc ?_ _)); exact BK663.out⟩, ⟨by (try simp only [hl11_2]); (with_reducible repeat (first | refine blk_drewN ?_ _ | refine blk_drew ?_ | refine blk_alloc ?_ _)); exact BK667.out⟩, ⟨bl_⟩⟩
           case rest =>
            clear HC51
            try clear c1
            try clear c2
            try clear p2
            try clear q2
            try clear hx2
            try clear qi2
            try clear c3
            try clear p3
            try clear q3
            try clear hx3
            try clear c4
            try clear c5
            try clear c6
            try clear p6
            try clear q6
            try clear hx6
            try clear qi6
            try clear c7
            try clear c11
            try clear c12
            try clear c12b0
            try clear c14
            try clear c14b0
            try clear c18
            try clear c19
            try clear c21
            try clear c21b0
            try clear c21b1
            try clear c22
            try clear c22b0
            try clear c22b1
            try clear c23
            try clear p23
            try clear q23
            try clear hx23
            try clear qi23
            try clear hf23
            try clear c26
            try clear c27
            try clear c27b0
            try clear c28
            try clear c28b0
            try clear c29
            try clear c29b0
            try clear c31
            try clear c32
            try clear c32b0
            try clear c33
            try clear p33
            try clear q33
            try clear hx33
            try clear hf33
            try clear c38
            try clear hx38
            try clear hf38
            try clear c43
            try clear c44
            try clear c46
            try clear c58
            try clear c64
            try clear c64b0
            try clear c64b1
            try clear p64
            try clear c65
            try clear c65b0
            try clear c65b1
            try clear p65
            try clear q65
            try clear hx65
            try clear qi65
            try clear c66
            try clear c66b0
            try clear c66b1
            try clear c67
            try clear c67b0
            try clear c67b1
            try clear c68
            try clear c68b0
            try clear c68b1
            try clear c68b2
            try clear c69
            try clear c69b0
            try clear c69b1
            try clear c70
            try clear c70b0
            try clear c70b1
            try clear hcz35_0
            try clear hcz35_1
            try clear hcz35_2
            try clear hcz35_3
            try clear hcz37_0
            try clear hcz37_1
            try clear hcz37_2
            try clear hcz37_3
            try clear hcz41_0
            try clear hcz41_1
            try clear hcz41_2
            try clear hcz41_3
            try clear hcz55_0
            try clear hcz55_1
            try clear hcz59_0
            try clear hcz59_1
            try clear hfz35_0
            try clear hfz35_1
            try clear hfz35_2
            try clear hfz35_3
            try clear hfz37_0
            try clear hfz37_1
            try clear hfz37_2
            try clear hfz37_3
            try clear hfz41_0
            try clear hfz41_1
            try clear hfz41_2
            try clear hfz41_3
            try clear hfz55_0
            try clear hfz55_1
            try clear hfz59_0
            try clear hfz59_1
            try clear hx23_0
            try clear hx23_1
            try clear hx23_2
            try clear hx23_3
            try clear hx33_0
            try clear hx33_1
            try clear hx33_2
            try clear hx33_3
            try clear hx38_2
            try clear hx38_3
            try clear hx652_0
            try clear hx652_1
            try clear hx652_2
            try clear hx652_3
            try clear hx653_0
            try clear hx653_1
            try clear hx653_2
            try clear hx653_3
            try clear hx655_0
            try clear hx655_1
            try clear hx655_2
            try clear hx655_3
            try clear p2
            try clear p23
            try clear p33
            try clear p6
            try clear p652
            try clear p653
            try clear p655
            try clear q2
            try clear q23
            try clear q33
            try clear q6
            try clear q652
            try clear q653
            try clear q655
            obtain ⟨kq, x173_50, rfl, HA, HJ50, HO_11, BK663, BK667, HB⟩ := hcut
            cases kq with
            | zero => exact absurd HA.out (by simp [waterhourlaw04_RefillMoved.j2])
            | succ kj50 =>
             have H := HA.out
             clear HA
             simp only [waterhourlaw04_RefillMoved.j2] at H
             by_cases c71 : x173_50 = true
             ·subst c71
              have H1 : (some false) = some r := by rw [if_pos rfl] at H; exact H
              clear H
              have H := H1
              clear H1
              exact absurd (H.trans (congrArg some hrt.out)) (by simp)
             ·replace c71 := Bool.eq_false_iff.mpr c71
              subst c71
              have H1 : (if t662 = 0 then (if (!(t664 == (wrap64 (t660 + a1))) || (!(t665 == (wrap64 (t661 + a1))))) = true then (some false) else ((waterhourref04_Event.f l0 a3 0).bind fun t680 => (if t680 = true then ((waterhourref04_Event.f l0 a4 0).bind fun t681 => (if t681 = true then (waterhourlaw04_RefillMoved.j3 kj50 l0 a3 a4 x11_2 (decide (a3 ≥ a4))) else (waterhourlaw04_RefillMoved.j3 kj50 l0 a3 a4 x11_2 true))) else (waterhourlaw04_RefillMoved.j3 kj50 l0 a3 a4 x11_2 true)))) else (if t662 = 31 then (some t674) else (some false))) = some r := by rw [if_neg (show ¬ (false = true) by decide)] at H; exact H
              clear H
              have H := H1
              clear H1
              by_cases c72 : t662 = 0
              ·rw [if_pos c72] at H
               have c72b0 : (t662 == 0) = true := beq_iff_eq.mpr c72
               have c72b1 : (t662 != 0) = false := bne_eq_false_iff_eq.mpr c72
               clear c72
               by_cases c73 : (!(t664 == (wrap64 (t660 + a1))) || (!(t665 == (wrap64 (t661 + a1))))) = true
               ·rw [if_pos c73] at H
                have c73b0 : (!(t664 == (wrap64 (t660 + a1))) || (!(t665 == (wrap64 (t661 + a1))))) = true := c73
                clear c73
                exact absurd (H.trans (congrArg some hrt.out)) (by simp)
               ·rw [if_neg c73] at H
                have c73b0 : (!(t664 == (wrap64 (t660 + a1))) || (!(t665 == (wrap64 (t661 + a1))))) = false := by simpa using c73
                clear c73
                have HC74 := a_ H
                clear H
                have hnb75 := NB667_663.out
                have hnc75 := NB663_667.out
                have hcz76_0 : wc.cell? ⟨gb667, 0, none⟩ = some (.int .i64 t664) := (blk_cell BK667.out 0).trans rfl
                have hcz76_1 : wc.cell? ⟨gb667, 1, none⟩ = some (.int .i64 t665) := (blk_cell BK667.out 1).trans rfl
                have hfz76_0 := blk_frozen BK667.out 0
                have hfz76_1 := blk_frozen BK667.out 1
                have hcz77_0 : wc.cell? ⟨gb663, 0, none⟩ = some (.int .i64 t660) := (blk_cell BK663.out 0).trans rfl
                have hcz77_1 : wc.cell? ⟨gb663, 1, none⟩ = some (.int .i64 t661) := (blk_cell BK663.out 1).trans rfl
                have hfz77_0 := blk_frozen BK663.out 0
                have hfz77_1 := blk_frozen BK663.out 1
                go_upto_region 27 with (fail)
                go_cut [206] (fun v206 wc => ∃ (kq : Nat) (x206_73 : Bool), v206 = .bool x206_73 ∧ Aside0 (waterhourlaw04_RefillMoved.j3 kq l0 a3 a4 x11_2 x206_73 = some r) ∧ Aside0 (kq ≤ kj50) ∧ Aside0 (Kd.R k51 51 wc w.heap.size (fun _ => True) (.slice (some ⟨go23, 0, none⟩) x11_2.length co23) x11_2) ∧ Aside0 (wc.heap[gb663]? = some (.cells #[.int .i64 t660, .int .i64 t661] 49 (0, 0))) ∧ Aside0 (wc.heap[gb667]? = some (.cells #[.int .i64 t664, .int .i64 t665] 49 (0, 0))) ∧ Aside0 (Below w.heap.size w wc))
                case first => as_aux_lemma =>
                 have H := HC74.out
                 clear HC74
                 replace H := Option.bind_eq_some_iff.mp H
                 obtain ⟨t680, A780, H⟩ := H
                 replace H : (if t680 = true then ((waterhourref04_Event.f l0 a4 0).bind fun t681 => (if t681 = true then (waterhourlaw04_RefillMoved.j3 kj50 l0 a3 a4 x11_2 (decide (a3 ≥ a4))) else (waterhourlaw04_RefillMoved.j3 kj50 l0 a3 a4 x11_2 true))) else (waterhourlaw04_RefillMoved.j3 kj50 l0 a3 a4 x11_2 true)) = some r := H
                 have A78 := a_ A780
                 clear A780
                 by_cases c79 : t680 = true
                 ·subst c79
                  have H1 : ((waterhourref04_Event.f l0 a4 0).bind fun t681 => (if t681 = true then (waterhourlaw04_RefillMoved.j3 kj50 l0 a3 a4 x11_2 (decide (a3 ≥ a4))) else (waterhourlaw04_RefillMoved.j3 kj50 l0 a3 a4 x11_2 true))) = some r := by rw [if_pos rfl] at H; exact H
                  clear H
                  have H := H1
                  clear H1
                  replace H := Option.bind_eq_some_iff.mp H
                  obtain ⟨t681, A800, H⟩ := H
                  replace H : (if t681 = true then (waterhourlaw04_RefillMoved.j3 kj50 l0 a3 a4 x11_2 (decide (a3 ≥ a4))) else (waterhourlaw04_RefillMoved.j3 kj50 l0 a3 a4 x11_2 true)) = some r := H
                  have A80 := a_ A800
                  clear A800
                  by_cases c81 : t681 = true
                  ·subst c81
                   have H1 : (waterhourlaw04_RefillMoved.j3 kj50 l0 a3 a4 x11_2 (decide (a3 ≥ a4))) = some r := by rw [if_pos rfl] at H; exact H
                   clear H
                   have H := H1
                   clear H1
                   have H' := a_ H
                   clear H
                   go_wp2_with (first | ((with_reducible refine gate_callee (f := 36) rfl ?_); refine goesL_ (some 194) rfl rfl Tryd.func36 (by kernel_rfl) rfl #[.slice (some ad652) l0.length c0, .int .i64 a3, .int .i64 0] rfl tm_ ?_; (with_reducible refine (waterhourref04_Event.calls _ _ l0 a3 0 true _ ?side1 ?side2 A78.out).mono ?_); (case side1 => exact cl_ (Kd.C_below HR0.out HB.out)); (case side2 => exact HC0.out); rintro e w' ⟨rfl, ⟨nd, rfl⟩⟩; refine ⟨_, rfl, ?_⟩) | (go_at_call 36; (with_reducible refine (waterhourref04_Event.calls _ _ l0 a4 0 true _ ?side1 ?side2 A80.out).mono ?_); (case side1 => exact cl_ (Kd.C_below HR0.out bl_)); (case side2 => exact HC0.out); rintro e w' ⟨rfl, ⟨nd, rfl⟩⟩))
                   go_meet
                   case rel => exact ⟨_, (decide (a3 ≥ a4)), (by first | rfl | (simp; done) | (simp [*]; done)), H', ⟨by have := HJ7.out; have := HK2.out; have := HJ50.out; first | omega | exact Nat.le_refl _⟩, ⟨by (try simp only [hl11_2]); (with_reducible repeat (first | apply Kd.R_alloc | apply Kd.R_drewN | apply Kd.R_drew)); exact HO_11.out⟩, ⟨by (try simp only [hl11_2]); (with_reducible repeat (first | refine blk_drewN ?_ _ | refine blk_drew ?_ | refine blk_alloc ?_ _)); exact BK663.out⟩, ⟨by (try simp only [hl11_2]); (with_reducible repeat (first | refine blk_drewN ?_ _ | refine blk_drew ?_ | refine blk_alloc ?_ _)); exact BK667.out⟩, ⟨bl_⟩⟩
                  ·replace c81 := Bool.eq_false_iff.mpr c81
                   subst c81
                   have H1 : (waterhourlaw04_RefillMoved.j3 kj50 l0 a3 a4 x11_2 true) = some r := by rw [if_neg (show ¬ (false = true) by decide)] at H; exact H
                   clear H
                   have H := H1
                   clear H1
                   have H' := a_ H
                   clear H
                   go_wp2_with (first | ((with_reducible refine gate_callee (f := 36) rfl ?_); refine goesL_ (some 194) rfl rfl Tryd.func36 (by kernel_rfl) rfl #[.slice (some ad652) l0.length c0, .int .i64 a3, .int .i64 0] rfl tm_ ?_; (with_reducible refine (waterhourref04_Event.calls _ _ l0 a3 0 true _ ?side1 ?side2 A78.out).mono ?_); (case side1 => exact cl_ (Kd.C_below HR0.out HB.out)); (case side2 => exact HC0.out); rintro e w' ⟨rfl, ⟨nd, rfl⟩⟩; refine ⟨_, rfl, ?_⟩) | (go_at_call 36; (with_reducible refine (waterhourref04_Event.calls _ _ l0 a4 0 false _ ?side1 ?side2 A80.out).mono ?_); (case side1 => exact cl_ (Kd.C_below HR0.out bl_)); (case side2 => exact HC0.out); rintro e w' ⟨rfl, ⟨nd, rfl⟩⟩))
                   go_meet
                   case rel => exact ⟨_, (true), (by first | rfl | (simp; done) | (simp [*]; done)), H', ⟨by have := HJ7.out; have := HK2.out; have := HJ50.out; first | omega | exact Nat.le_refl _⟩, ⟨by (try simp only [hl11_2]); (with_reducible repeat (first | apply Kd.R_alloc | apply Kd.R_drewN | apply Kd.R_drew)); exact HO_11.out⟩, ⟨by (try simp only [hl11_2]); (with_reducible repeat (first | refine blk_drewN ?_ _ | refine blk_drew ?_ | refine blk_alloc ?_ _)); exact BK663.out⟩, ⟨by (try simp only [hl11_2]); (with_reducible repeat (first | refine blk_drewN ?_ _ | refine blk_drew ?_ | refine blk_alloc ?_ _)); exact BK667.out⟩, ⟨bl_⟩⟩
                 ·replace c79 := Bool.eq_false_iff.mpr c79
                  subst c79
                  have H1 : (waterhourlaw04_RefillMoved.j3 kj50 l0 a3 a4 x11_2 true) = some r := by rw [if_neg (show ¬ (false = true) by decide)] at H; exact H
                  clear H
                  have H := H1
                  clear H1
                  have H' := a_ H
                  clear H
                  go_wp2_with (first | ((with_reducible refine gate_callee (f := 36) rfl ?_); refine goesL_ (some 194) rfl rfl Tryd.func36 (by kernel_rfl) rfl #[.slice (some ad652) l0.length c0, .int .i64 a3, .int .i64 0] rfl tm_ ?_; (with_reducible refine (waterhourref04_Event.calls _ _ l0 a3 0 false _ ?side1 ?side2 A78.out).mono ?_); (case side1 => exact cl_ (Kd.C_below HR0.out HB.out)); (case side2 => exact HC0.out); rintro e w' ⟨rfl, ⟨nd, rfl⟩⟩; refine ⟨_, rfl, ?_⟩))
                  go_meet
                  case rel => exact ⟨_, (true), (by first | rfl | (simp; done) | (simp [*]; done)), H', ⟨by have := HJ7.out; have := HK2.out; have := HJ50.out; first | omega | exact Nat.le_refl _⟩, ⟨by (try simp only [hl11_2]); (with_reducible repeat (first | apply Kd.R_alloc | apply Kd.R_drewN | apply Kd.R_drew)); exact HO_11.out⟩, ⟨by (try simp only [hl11_2]); (with_reducible repeat (first | refine blk_drewN ?_ _ | refine blk_drew ?_ | refine blk_alloc ?_ _)); exact BK663.out⟩, ⟨by (try simp only [hl11_2]); (with_reducible repeat (first | refine blk_drewN ?_ _ | refine blk_drew ?_ | refine blk_alloc ?_ _)); exact BK667.out⟩, ⟨bl_⟩⟩
                case rest =>
                 clear HC74
                 try clear c1
                 try clear c2
                 try clear p2
                 try clear q2
                 try clear hx2
                 try clear qi2
                 try clear c3
                 try clear p3
                 try clear q3
                 try clear hx3
                 try clear c4
                 try clear c5
                 try clear c6
                 try clear p6
                 try clear q6
                 try clear hx6
                 try clear qi6
                 try clear c7
                 try clear c8
                 try clear c11
                 try clear c12
                 try clear c12b0
                 try clear c14
                 try clear c14b0
                 try clear c18
                 try clear c19
                 try clear c21
                 try clear c21b0
                 try clear c21b1
                 try clear c22
                 try clear c22b0
                 try clear c22b1
                 try clear c23
                 try clear p23
                 try clear q23
                 try clear hx23
                 try clear qi23
                 try clear hf23
                 try clear c26
                 try clear c27
                 try clear c27b0
                 try clear c28
                 try clear c28b0
                 try clear c29
                 try clear c29b0
                 try clear c31
                 try clear c32
                 try clear c32b0
                 try clear c33
                 try clear p33
                 try clear q33
                 try clear hx33
                 try clear hf33
                 try clear c36
                 try clear c38
                 try clear hx38
                 try clear hf38
                 try clear c43
                 try clear c44
                 try clear c46
                 try clear c58
                 try clear c64
                 try clear c64b0
                 try clear c64b1
                 try clear p64
                 try clear c65
                 try clear c65b0
                 try clear c65b1
                 try clear p65
                 try clear q65
                 try clear hx65
                 try clear qi65
                 try clear c66
                 try clear c66b0
                 try clear c66b1
                 try clear c67
                 try clear c67b0
                 try clear c67b1
                 try clear c68
                 try clear c68b0
                 try clear c68b1
                 try clear c68b2
                 try clear c69
                 try clear c69b0
                 try clear c69b1
                 try clear c70
                 try clear c70b0
                 try clear c70b1
                 try clear c71
                 try clear c72
                 try clear c72b0
                 try clear c72b1
                 try clear c73
                 try clear c73b0
                 try clear c75
                 try clear c79
                 try clear c81
                 try clear hcz35_0
                 try clear hcz35_1
                 try clear hcz35_2
                 try clear hcz35_3
                 try clear hcz37_0
                 try clear hcz37_1
                 try clear hcz37_2
                 try clear hcz37_3
                 try clear hcz41_0
                 try clear hcz41_1
                 try clear hcz41_2
                 try clear hcz41_3
                 try clear hcz55_0
                 try clear hcz55_1
                 try clear hcz59_0
                 try clear hcz59_1
                 try clear hcz76_0
                 try clear hcz76_1
                 try clear hcz77_0
                 try clear hcz77_1
                 try clear hfz35_0
                 try clear hfz35_1
                 try clear hfz35_2
                 try clear hfz35_3
                 try clear hfz37_0
                 try clear hfz37_1
                 try clear hfz37_2
                 try clear hfz37_3
                 try clear hfz41_0
                 try clear hfz41_1
                 try clear hfz41_2
                 try clear hfz41_3
                 try clear hfz55_0
                 try clear hfz55_1
                 try clear hfz59_0
                 try clear hfz59_1
                 try clear hfz76_0
                 try clear hfz76_1
                 try clear hfz77_0
                 try clear hfz77_1
                 try clear hx23_0
                 try clear hx23_1
                 try clear hx23_2
                 try clear hx23_3
                 try clear hx33_0
                 try clear hx33_1
                 try clear hx33_2
                 try clear hx33_3
                 try clear hx38_2
                 try clear hx38_3
                 try clear hx652_0
                 try clear hx652_1
                 try clear hx652_2
                 try clear hx652_3
                 try clear hx653_0
                 try clear hx653_1
                 try clear hx653_2
                 try clear hx653_3
                 try clear hx655_0
                 try clear hx655_1
                 try clear hx655_2
                 try clear hx655_3
                 try clear p2
                 try clear p23
                 try clear p3
                 try clear p33
                 try clear p6
                 try clear p64
                 try clear p65
                 try clear p652
                 try clear p653
                 try clear p655
                 try clear q2
                 try clear q23
                 try clear q3
                 try clear q33
                 try clear q6
                 try clear q65
                 try clear q652
                 try clear q653
                 try clear q655
                 obtain ⟨kq, x206_73, rfl, HA, HJ73, HO_11, BK663, BK667, HB⟩ := hcut
                 cases kq with
                 | zero => exact absurd HA.out (by simp [waterhourlaw04_RefillMoved.j3])
                 | succ kj73 =>
                  have H := HA.out
                  clear HA
                  simp only [waterhourlaw04_RefillMoved.j3] at H
                  by_cases c82 : x206_73 = true
                  ·subst c82
                   have H1 : (some true) = some r := by rw [if_pos rfl] at H; exact H
                   clear H
                   have H := H1
                   clear H1
                   obtain rfl := Option.some.inj H
                   go_wp2
                   go_ret
                   exact ⟨by first | rfl | (simp [errW_none, errW_some] <;> rfl) | (simp [*, errW_none, errW_some] <;> rfl), bl_⟩
                  ·replace c82 := Bool.eq_false_iff.mpr c82
                   subst c82
                   have H1 : ((refill_Between.f kj73 l0 a3 a4).bind fun bt682 => ((refill_Between.f kj73 x11_2 a3 a4).bind fun bt686 => (if bt682.2.2 = 0 then (if bt686.2.2 = 0 then (some (bt682.1 == bt686.1 && (bt682.2.1 == bt686.2.1))) else (some false)) else (some false)))) = some r := by rw [if_neg (show ¬ (false = true) by decide)] at H; exact H
                   clear H
                   have H := H1
                   clear H1
                   replace H := Option.bind_eq_some_iff.mp H
                   obtain ⟨⟨t682, t683, t684⟩, A830, H⟩ := H
                   replace H : ((refill_Between.f kj73 x11_2 a3 a4).bind fun bt686 => (if t684 = 0 then (if bt686.2.2 = 0 then (some (t682 == bt686.1 && (t683 == bt686.2.1))) else (some false)) else (some false))) = some r := H
                   have A83 := a_ A830
                   clear A830
                   replace H := Option.bind_eq_some_iff.mp H
                   obtain ⟨⟨t686, t687, t688⟩, A840, H⟩ := H
                   replace H : (if t684 = 0 then (if t688 = 0 then (some (t682 == t686 && (t683 == t687))) else (some false)) else (some false)) = some r := H
                   have A84 := a_ A840
                   clear A840
                   by_cases c85 : t684 = 0
                   ·rw [if_pos c85] at H
                    have c85b0 : (t684 == 0) = true := beq_iff_eq.mpr c85
                    have c85b1 : (t684 != 0) = false := bne_eq_false_iff_eq.mpr c85
                    clear c85
                    by_cases c86 : t688 = 0
                    ·rw [if_pos c86] at H
                     have c86b0 : (t688 == 0) = true := beq_iff_eq.mpr c86
                     have c86b1 : (t688 != 0) = false := bne_eq_false_iff_eq.mpr c86
                     clear c86
                     obtain rfl := Option.some.inj H
                     go_wp2_with (first | ((with_reducible refine gate_callee (f := 44) rfl ?_); refine goesL_ (some 211) rfl rfl Tryd.func44 (by kernel_rfl) rfl #[.slice (some ad652) l0.length c0, .int .i64 a3, .int .i64 a4] rfl tm_ ?_; (with_reducible refine (refill_Between.calls kj73 _ _ l0 a3 a4 t682 t683 t684 _ ?side1 ?side2 A83.out).mono ?_); (case side1 => exact cl_ (Kd.C_below HR0.out HB.out)); (case side2 => exact HC0.out); rintro e w87 ⟨rfl, hb⟩; refine ⟨_, rfl, ?_⟩; have n0_ := a_ (Kd.R_below (rl_ HO_11.out) hb); have n1_ := a_ (bb_ BK663.out hb); have n2_ := a_ (bb_ BK667.out hb); have n3_ := a_ (below_step bl_ hb); clear HO_11; clear BK663; clear BK667; clear HB; have HO_11 := n0_; have BK663 := n1_; have BK667 := n2_; have HB := n3_; clear n0_ n1_ n2_ n3_; (try clear hb); (try clear hb2); (try clear hk); (try clear hi)) | ((with_reducible refine gate_dst (N := 30) rfl ?_); refine box_event ?hg (N := 30) ?hd (cs := #[.int .i64 0, .int .i64 0]) (t := 49) ?hr ?_; (case hd => rfl); (case hg => rfl); (case hr => first | (go_simp; done) | (go_simp; rfl)); intro gb685 hg w88 hbox hb; have n0_ := a_ (Kd.R_below (rl_ HO_11.out) hb); have n1_ := a_ (bb_ BK663.out hb); have n2_ := a_ (bb_ BK667.out hb); have n3_ := a_ (below_step bl_ hb); have n4_ := a_ (hbox); have n5_ := a_ ((bz_ (w := w) hg)); have n6_ := a_ ((bz_ (w := w) hg)); have n7_ := a_ ((nl_ BK663.out hg)); have n8_ := a_ ((ng_ BK663.out hg)); have n9_ := a_ ((nl_ BK667.out hg)); have n10_ := a_ ((ng_ BK667.out hg)); clear HO_11; clear BK663; clear BK667; clear HB; have HO_11 := n0_; have BK663 := n1_; have BK667 := n2_; have HB := n3_; have BK685 := n4_; have GW685 := n5_; have GE685 := n6_; have NB663_685 := n7_; have NB685_663 := n8_; have NB667_685 := n9_; have NB685_667 := n10_; clear n0_ n1_ n2_ n3_ n4_ n5_ n6_ n7_ n8_ n9_ n10_; clear hb hbox hg; have hnb89 := NB685_663.out; have hnc89 := NB663_685.out; have hnb90 := NB685_667.out; have hnc90 := NB667_685.out; have hcz91_0 : w88.cell? ⟨gb685, 0, none⟩ = some (.int .i64 0) := (blk_cell BK685.out 0).trans rfl; have hcz91_1 : w88.cell? ⟨gb685, 1, none⟩ = some (.int .i64 0) := (blk_cell BK685.out 1).trans rfl; have hfz91_0 := blk_frozen BK685.out 0; have hfz91_1 := blk_frozen BK685.out 1) | ((with_reducible refine gate_callee (f := 44) rfl ?_); refine goesL_ (some 218) rfl rfl Tryd.func44 (by kernel_rfl) rfl #[.slice (some ⟨go23, 0, none⟩) x11_2.length co23, .int .i64 a3, .int .i64 a4] rfl tm_ ?_; (with_reducible refine (refill_Between.calls kj73 _ _ x11_2 a3 a4 t686 t687 t688 _ ?side1 ?side2 A84.out).mono ?_); (case side1 => refine (Kd.R_reads' (e := 51) (base := w.heap.size) (ok := fun k_ => True) (n := x11_2.length) (c := co23) ?_).2.2; exact (rl_ (Kd.R_mono (Kd.R_far (p := ⟨gb685, 1, none⟩) (Kd.R_far (p := ⟨gb685, 0, none⟩) (Kd.R_types HO_11.out BK685.out (by decide)) (fun _ hk => hk.2) (.int .i64 t682)) (fun _ hk => hk.2) (.int .i64 t683)) (fun _ h_ => h_.1)))); (case side2 => exact (Kd.R_reads' HO_11.out).2.1); rintro e w92 ⟨rfl, hb⟩; refine ⟨_, rfl, ?_⟩; have n0_ := a_ (Kd.R_below (rl_ (Kd.R_mono (Kd.R_far (p := ⟨gb685, 1, none⟩) (Kd.R_far (p := ⟨gb685, 0, none⟩) (Kd.R_types HO_11.out BK685.out (by decide)) (fun _ hk => hk.2) (.int .i64 t682)) (fun _ hk => hk.2) (.int .i64 t683)) (fun _ h_ => h_.1))) hb); have n1_ := a_ (blk_below (g := gb663) (o := .cells #[.int .i64 t660, .int .i64 t661] 49 (0, 0)) (by (with_reducible repeat (first | refine blk_drewN ?_ _ | refine blk_drew ?_ | refine blk_alloc ?_ _)); refine blk_far ?_ NB663_685.out _; (with_reducible repeat (first | refine blk_drewN ?_ _ | refine blk_drew ?_ | refine blk_alloc ?_ _)); refine blk_far ?_ NB663_685.out _; (with_reducible repeat (first | refine blk_drewN ?_ _ | refine blk_drew ?_ | refine blk_alloc ?_ _)); exact BK663.out) hb); have n2_ := a_ (blk_below (g := gb667) (o := .cells #[.int .i64 t664, .int .i64 t665] 49 (0, 0)) (by (with_reducible repeat (first | refine blk_drewN ?_ _ | refine blk_drew ?_ | refine blk_alloc ?_ _)); refine blk_far ?_ NB667_685.out _; (with_reducible repeat (first | refine blk_drewN ?_ _ | refine blk_drew ?_ | refine blk_alloc ?_ _)); refine blk_far ?_ NB667_685.out _; (with_reducible repeat (first | refine blk_drewN ?_ _ | refine blk_drew ?_ | refine blk_alloc ?_ _)); exact BK667.out) hb); have n3_ := a_ (blk_below (g := gb685) (o := .cells #[.int .i64 t682, .int .i64 t683] 49 (0, 0)) (by (with_reducible repeat (first | refine blk_drewN ?_ _ | refine blk_drew ?_ | refine blk_alloc ?_ _)); refine blk_put (cs := #[.int .i64 t682, .int .i64 0]) ?_ 1 _ rfl; (with_reducible repeat (first | refine blk_drewN ?_ _ | refine blk_drew ?_ | refine blk_alloc ?_ _)); refine blk_put (cs := #[.int .i64 0, .int .i64 0]) ?_ 0 _ rfl; (with_reducible repeat (first | refine blk_drewN ?_ _ | refine blk_drew ?_ | refine blk_alloc ?_ _)); exact BK685.out) hb); have n4_ := a_ (below_step bl_ hb); clear HO_11; clear BK663; clear BK667; clear BK685; clear HB; have HO_11 := n0_; have BK663 := n1_; have BK667 := n2_; have BK685 := n3_; have HB := n4_; clear n0_ n1_ n2_ n3_ n4_; (try clear hb); (try clear hb2); (try clear hk); (try clear hi)) | ((with_reducible refine gate_dst (N := 31) rfl ?_); refine box_event ?hg (N := 31) ?hd (cs := #[.int .i64 0, .int .i64 0]) (t := 49) ?hr ?_; (case hd => rfl); (case hg => rfl); (case hr => first | (go_simp; done) | (go_simp; rfl)); intro gb689 hg w93 hbox hb; have n0_ := a_ (Kd.R_below (rl_ HO_11.out) hb); have n1_ := a_ (bb_ BK663.out hb); have n2_ := a_ (bb_ BK667.out hb); have n3_ := a_ (bb_ BK685.out hb); have n4_ := a_ (below_step bl_ hb); have n5_ := a_ (hbox); have n6_ := a_ ((bz_ (w := w) hg)); have n7_ := a_ ((bz_ (w := w) hg)); have n8_ := a_ ((nl_ BK663.out hg)); have n9_ := a_ ((ng_ BK663.out hg)); have n10_ := a_ ((nl_ BK667.out hg)); have n11_ := a_ ((ng_ BK667.out hg)); have n12_ := a_ ((nl_ BK685.out hg)); have n13_ := a_ ((ng_ BK685.out hg)); clear HO_11; clear BK663; clear BK667; clear BK685; clear HB; have HO_11 := n0_; have BK663 := n1_; have BK667 := n2_; have BK685 := n3_; have HB := n4_; have BK689 := n5_; have GW689 := n6_; have GE689 := n7_; have NB663_689 := n8_; have NB689_663 := n9_; have NB667_689 := n10_; have NB689_667 := n11_; have NB685_689 := n12_; have NB689_685 := n13_; clear n0_ n1_ n2_ n3_ n4_ n5_ n6_ n7_ n8_ n9_ n10_ n11_ n12_ n13_; clear hb hbox hg; have hnb94 := NB689_663.out; have hnc94 := NB663_689.out; have hnb95 := NB689_667.out; have hnc95 := NB667_689.out; have hnb96 := NB689_685.out; have hnc96 := NB685_689.out; have hcz97_0 : w93.cell? ⟨gb689, 0, none⟩ = some (.int .i64 0) := (blk_cell BK689.out 0).trans rfl; have hcz97_1 : w93.cell? ⟨gb689, 1, none⟩ = some (.int .i64 0) := (blk_cell BK689.out 1).trans rfl; have hfz97_0 := blk_frozen BK689.out 0; have hfz97_1 := blk_frozen BK689.out 1; have hcz98_0 : w93.cell? ⟨gb685, 0, none⟩ = some (.int .i64 t682) := (blk_cell BK685.out 0).trans rfl; have hcz98_1 : w93.cell? ⟨gb685, 1, none⟩ = some (.int .i64 t683) := (blk_cell BK685.out 1).trans rfl; have hfz98_0 := blk_frozen BK685.out 0; have hfz98_1 := blk_frozen BK685.out 1))
                     go_ret
                     exact ⟨by first | rfl | (simp [errW_none, errW_some] <;> rfl) | (simp [*, errW_none, errW_some] <;> rfl), bl_⟩
                    ·rw [if_neg c86] at H
                     have c86b0 : (t688 == 0) = false := beq_eq_false_iff_ne.mpr c86
                     have c86b1 : (t688 != 0) = true := bne_iff_ne.mpr c86
                     exact absurd (H.trans (congrArg some hrt.out)) (by simp)
                   ·rw [if_neg c85] at H
                    have c85b0 : (t684 == 0) = false := beq_eq_false_iff_ne.mpr c85
                    have c85b1 : (t684 != 0) = true := bne_iff_ne.mpr c85
                    exact absurd (H.trans (congrArg some hrt.out)) (by simp)
              ·rw [if_neg c72] at H
               have c72b0 : (t662 == 0) = false := beq_eq_false_iff_ne.mpr c72
               have c72b1 : (t662 != 0) = true := bne_iff_ne.mpr c72
               by_cases c99 : t662 = 31
               ·rw [if_pos c99] at H
                have c99b0 : (t662 == 31) = true := beq_iff_eq.mpr c99
                have c99b1 : (t662 != 31) = false := bne_eq_false_iff_eq.mpr c99
                clear c99
                obtain rfl := Option.some.inj H
                go_wp2
                go_ret
                exact ⟨by first | rfl | (simp [errW_none, errW_some] <;> rfl) | (simp [*, errW_none, errW_some] <;> rfl), bl_⟩
               ·rw [if_neg c99] at H
                have c99b0 : (t662 == 31) = false := beq_eq_false_iff_ne.mpr c99
                have c99b1 : (t662 != 31) = true := bne_iff_ne.mpr c99
                exact absurd (H.trans (congrArg some hrt.out)) (by simp)
          ·replace c44 := Bool.eq_false_iff.mpr c44
           subst c44
           have H1 : (some true) = some r := by rw [if_neg (show ¬ (false = true) by decide)] at H; exact H
           clear H
           have H := H1
           clear H1
           obtain rfl := Option.some.inj H
           go_wp2_with (first | ((with_reducible refine gate_callee (f := 31) rfl ?_); refine goesL_ (some 98) rfl rfl Tryd.func31 (by kernel_rfl) rfl #[.slice (some ⟨go23, 0, none⟩) x11_2.length co23] rfl tm_ ?_; (with_reducible refine (waterhourref04_Valid.calls k2 _ _ x11_2 false _ ?side1 ?side2 A43.out).mono ?_); (case side1 => exact cl_ ((Kd.R_reads' HO_11.out).2.2)); (case side2 => exact (Kd.R_reads' HO_11.out).2.1); rintro e w100 ⟨rfl, hb⟩; refine ⟨_, rfl, ?_⟩; have n0_ := a_ (Kd.R_below (rl_ HO_11.out) hb); have n1_ := a_ (below_step bl_ hb); clear HO_11; clear HB; have HO_11 := n0_; have HB := n1_; clear n0_ n1_; (try clear hb); (try clear hb2); (try clear hk); (try clear hi)))
           go_ret
           exact ⟨by first | rfl | (simp [errW_none, errW_some] <;> rfl) | (simp [*, errW_none, errW_some] <;> rfl), bl_⟩
      ·rw [if_neg c22] at H
       exact absurd H (by simp)
     ·rw [if_neg c21] at H
      exact absurd H (by simp)
 ·replace c7 := Bool.eq_false_iff.mpr c7
  subst c7
  have H1 : (some false) = some r := by rw [if_neg (show ¬ (false = true) by decide)] at H; exact H
  clear H
  have H := H1
  clear H1
  exact absurd (H.trans (congrArg some hrt.out)) (by simp)

end Go.Proofs.YtgiihjcpgjpkcaaDoor.Q
