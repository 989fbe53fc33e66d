/- The contract of the law RefillDays itself: its call answers what the plain function of the same name answers. -/
import Derived.Test.YtgiihjcpgjpkcaaDoorKQ0
import Derived.Test.YtgiihjcpgjpkcaaDoorKQF
import Derived.Test.YtgiihjcpgjpkcaaDoorKQI
import Derived.Test.YtgiihjcpgjpkcaaDoorKQM
import Derived.Test.YtgiihjcpgjpkcaaDoorKQR
import Derived.Test.YtgiihjcpgjpkcaaDoorKQS
import Derived.Test.YtgiihjcpgjpkcaaDoorKQT
import Derived.Test.YtgiihjcpgjpkcaaDoorKQU
import Derived.Test.YtgiihjcpgjpkcaaDoorKQY
import Derived.Test.YtgiihjcpgjpkcaaDoorKHKnown
import Derived.Test.YtgiihjcpgjpkcaaDoorKHSane
import Derived.Test.YtgiihjcpgjpkcaaDoorKHWithout
namespace Go.Proofs.YtgiihjcpgjpkcaaDoor.Q
open Go.RowKit Go.Proofs.YtgiihjcpgjpkcaaDoorW.PrintWords Go.Proofs.YtgiihjcpgjpkcaaDoorW.PrintLast Go.Proofs.YtgiihjcpgjpkcaaDoorW.PrintMore
attribute [local go_sem] max2_int min2_int max_two min_two max_three min_three max_four min_four   -- for this text's walks alone
set_option linter.unusedVariables false
set_option linter.unusedSimpArgs false
mutual
def waterhourlaw04_RefillDays.j0 : Nat → List (S51) → List (S51) → Int → Bool → Int → Int → Option (Bool)
 | 0, _, _, _, _, _, _ => none
 | k + 1, x0, x1, x2, x22, x917000, x917001 => if x22 = true then (some true) else ((refill_Closed.f k x0).bind fun bt920 => ((waterhourref04_Closed.f k x0).bind fun bt924 => ((waterhourref04_Same.f k bt920.1 bt924.1).bind fun t928 => (if t928 = true then (waterhourlaw04_RefillDays.j1 k x0 x1 x2 (bt920.2 != bt924.2) x917000 x917001) else (waterhourlaw04_RefillDays.j1 k x0 x1 x2 true x917000 x917001)))))
def waterhourlaw04_RefillDays.j1 : Nat → List (S51) → List (S51) → Int → Bool → Int → Int → Option (Bool)
 | 0, _, _, _, _, _, _ => none
 | k + 1, x0, x1, x2, x41, x917000, x917001 => if x41 = true then (some false) else ((refill_Known.f x0 x2 x917000 x917001).bind fun bt929 => ((waterhourref04_Narrowed.f k x0 x2 x917000 x917001).bind fun bt933 => ((waterhourref04_Same.f k bt929.1 bt933.1).bind fun t937 => (if t937 = true then (waterhourlaw04_RefillDays.j2 k x0 x1 x2 (bt929.2 != bt933.2)) else (waterhourlaw04_RefillDays.j2 k x0 x1 x2 true)))))
def waterhourlaw04_RefillDays.j2 : Nat → List (S51) → List (S51) → Int → Bool → Option (Bool)
 | 0, _, _, _, _ => none
 | k + 1, x0, x1, x2, x64 => if x64 = true then (some false) else ((refill_Without.f x0 x2).bind fun bt938 => ((waterhourref04_Without.f k x0 x2).bind fun bt942 => ((waterhourref04_Same.f k bt938.1 bt942.1).bind fun t946 => (if t946 = true then (waterhourlaw04_RefillDays.j3 k x0 x1 (bt938.2 != bt942.2)) else (waterhourlaw04_RefillDays.j3 k x0 x1 true)))))
def waterhourlaw04_RefillDays.j3 : Nat → List (S51) → List (S51) → Bool → Option (Bool)
 | 0, _, _, _ => none
 | k + 1, x0, x1, x85 => if x85 = true then (some false) else ((refill_Joined.f k x0 x1).bind fun bt947 => ((waterhourref04_Joined.f k x0 x1).bind fun bt951 => ((waterhourref04_Same.f k bt947.1 bt951.1).bind fun t955 => (if t955 = true then (some (bt947.2 == bt951.2)) else (some false)))))
end
def waterhourlaw04_RefillDays.f (k : Nat) (l0 : List (S51)) (l1 : List (S51)) (a2 : Int) (a3_0 : Int) (a3_1 : Int) : Option (Bool) := (law_sane.f).bind fun t917 => (if t917 = true then ((waterhourlaw04_few.f k l0 ([] : List (List Int))).bind fun t918 => (if t918 = true then ((waterhourlaw04_few.f k l1 ([] : List (List Int))).bind fun t919 => (waterhourlaw04_RefillDays.j0 k l0 l1 a2 (!t919) a3_0 a3_1)) else (waterhourlaw04_RefillDays.j0 k l0 l1 a2 true a3_0 a3_1))) else (some false))
theorem waterhourlaw04_RefillDays.mono_l : ∀ k, (∀ y0 y1 y2 y3 y4 y5, LeO (waterhourlaw04_RefillDays.j0 k y0 y1 y2 y3 y4 y5) (waterhourlaw04_RefillDays.j0 (k + 1) y0 y1 y2 y3 y4 y5)) ∧ (∀ y0 y1 y2 y3 y4 y5, LeO (waterhourlaw04_RefillDays.j1 k y0 y1 y2 y3 y4 y5) (waterhourlaw04_RefillDays.j1 (k + 1) y0 y1 y2 y3 y4 y5)) ∧ (∀ y0 y1 y2 y3, LeO (waterhourlaw04_RefillDays.j2 k y0 y1 y2 y3) (waterhourlaw04_RefillDays.j2 (k + 1) y0 y1 y2 y3)) ∧ (∀ y0 y1 y2, LeO (waterhourlaw04_RefillDays.j3 k y0 y1 y2) (waterhourlaw04_RefillDays.j3 (k + 1) y0 y1 y2))
 | 0 => ⟨fun _ _ _ _ _ _ r h => by simp [waterhourlaw04_RefillDays.j0] at h, fun _ _ _ _ _ _ r h => by simp [waterhourlaw04_RefillDays.j1] at h, fun _ _ _ _ r h => by simp [waterhourlaw04_RefillDays.j2] at h, fun _ _ _ r h => by simp [waterhourlaw04_RefillDays.j3] at h⟩
 | k + 1 => by
  obtain ⟨ih0, ih1, ih2, ih3⟩ := waterhourlaw04_RefillDays.mono_l k
  refine ⟨?_, ?_, ?_, ?_⟩
  ·intro y0 y1 y2 y3 y4 y5
   unfold waterhourlaw04_RefillDays.j0
   repeat' first
   | (with_reducible exact ih0 _ _ _ _ _ _)
   | (with_reducible exact ih1 _ _ _ _ _ _)
   | (with_reducible exact ih2 _ _ _ _)
   | (with_reducible exact ih3 _ _ _)
   | (with_reducible exact refill_Closed.mono _ _)
   | (with_reducible exact refill_Joined.mono _ _ _)
   | (with_reducible exact waterhourlaw04_few.mono _ _ _)
   | (with_reducible exact waterhourref04_Closed.mono _ _)
   | (with_reducible exact waterhourref04_Joined.mono _ _ _)
   | (with_reducible exact waterhourref04_Narrowed.mono _ _ _ _ _)
   | (with_reducible exact waterhourref04_Same.mono _ _ _)
   | (with_reducible exact waterhourref04_Without.mono _ _ _)
   | (with_reducible exact LeO.refl _)
   | (with_reducible exact LeO.none _)
   | (with_reducible refine LeO.ite ?_ ?_)
   | (with_reducible refine LeO.bind ?_ (fun _ => ?_))
   | exact ih0 _ _ _ _ _ _
   | exact ih1 _ _ _ _ _ _
   | exact ih2 _ _ _ _
   | exact ih3 _ _ _
   | exact refill_Closed.mono _ _
   | exact refill_Joined.mono _ _ _
   | exact waterhourlaw04_few.mono _ _ _
   | exact waterhourref04_Closed.mono _ _
   | exact waterhourref04_Joined.mono _ _ _
   | exact waterhourref04_Narrowed.mono _ _ _ _ _
   | exact waterhourref04_Same.mono _ _ _
   | exact waterhourref04_Without.mono _ _ _
   | exact LeO.none _
   | refine LeO.ite ?_ ?_
   | refine LeO.bind ?_ (fun _ => ?_)
  ·intro y0 y1 y2 y3 y4 y5
   unfold waterhourlaw04_RefillDays.j1
   repeat' first
   | (with_reducible exact ih0 _ _ _ _ _ _)
   | (with_reducible exact ih1 _ _ _ _ _ _)
   | (with_reducible exact ih2 _ _ _ _)
   | (with_reducible exact ih3 _ _ _)
   | (with_reducible exact refill_Closed.mono _ _)
   | (with_reducible exact refill_Joined.mono _ _ _)
   | (with_reducible exact waterhourlaw04_few.mono _ _ _)
   | (with_reducible exact waterhourref04_Closed.mono _ _)
   | (with_reducible exact waterhourref04_Joined.mono _ _ _)
   | (with_reducible exact waterhourref04_Narrowed.mono _ _ _ _ _)
   | (with_reducible exact waterhourref04_Same.mono _ _ _)
   | (with_reducible exact waterhourref04_Without.mono _ _ _)
   | (with_reducible exact LeO.refl _)
   | (with_reducible exact LeO.none _)
   | (with_reducible refine LeO.ite ?_ ?_)
   | (with_reducible refine LeO.bind ?_ (fun _ => ?_))
   | exact ih0 _ _ _ _ _ _
   | exact ih1 _ _ _ _ _ _
   | exact ih2 _ _ _ _
   | exact ih3 _ _ _
   | exact refill_Closed.mono _ _
   | exact refill_Joined.mono _ _ _
   | exact waterhourlaw04_few.mono _ _ _
   | exact waterhourref04_Closed.mono _ _
   | exact waterhourref04_Joined.mono _ _ _
   | exact waterhourref04_Narrowed.mono _ _ _ _ _
   | exact waterhourref04_Same.mono _ _ _
   | exact waterhourref04_Without.mono _ _ _
   | exact LeO.none _
   | refine LeO.ite ?_ ?_
   | refine LeO.bind ?_ (fun _ => ?_)
  ·intro y0 y1 y2 y3
   unfold waterhourlaw04_RefillDays.j2
   repeat' first
   | (with_reducible exact ih0 _ _ _ _ _ _)
   | (with_reducible exact ih1 _ _ _ _ _ _)
   | (with_reducible exact ih2 _ _ _ _)
   | (with_reducible exact ih3 _ _ _)
   | (with_reducible exact refill_Closed.mono _ _)
   | (with_reducible exact refill_Joined.mono _ _ _)
   | (with_reducible exact waterhourlaw04_few.mono _ _ _)
   | (with_reducible exact waterhourref04_Closed.mono _ _)
   | (with_reducible exact waterhourref04_Joined.mono _ _ _)
   | (with_reducible exact waterhourref04_Narrowed.mono _ _ _ _ _)
   | (with_reducible exact waterhourref04_Same.mono _ _ _)
   | (with_reducible exact waterhourref04_Without.mono _ _ _)
   | (with_reducible exact LeO.refl _)
   | (with_reducible exact LeO.none _)
   | (with_reducible refine LeO.ite ?_ ?_)
   | (with_reducible refine LeO.bind ?_ (fun _ => ?_))
   | exact ih0 _ _ _ _ _ _
   | exact ih1 _ _ _ _ _ _
   | exact ih2 _ _ _ _
   | exact ih3 _ _ _
   | exact refill_Closed.mono _ _
   | exact refill_Joined.mono _ _ _
   | exact waterhourlaw04_few.mono _ _ _
   | exact waterhourref04_Closed.mono _ _
   | exact waterhourref04_Joined.mono _ _ _
   | exact waterhourref04_Narrowed.mono _ _ _ _ _
   | exact waterhourref04_Same.mono _ _ _
   | exact waterhourref04_Without.mono _ _ _
   | exact LeO.none _
   | refine LeO.ite ?_ ?_
   | refine LeO.bind ?_ (fun _ => ?_)
  ·intro y0 y1 y2
   unfold waterhourlaw04_RefillDays.j3
   repeat' first
   | (with_reducible exact ih0 _ _ _ _ _ _)
   | (with_reducible exact ih1 _ _ _ _ _ _)
   | (with_reducible exact ih2 _ _ _ _)
   | (with_reducible exact ih3 _ _ _)
   | (with_reducible exact refill_Closed.mono _ _)
   | (with_reducible exact refill_Joined.mono _ _ _)
   | (with_reducible exact waterhourlaw04_few.mono _ _ _)
   | (with_reducible exact waterhourref04_Closed.mono _ _)
   | (with_reducible exact waterhourref04_Joined.mono _ _ _)
   | (with_reducible exact waterhourref04_Narrowed.mono _ _ _ _ _)
   | (with_reducible exact waterhourref04_Same.mono _ _ _)
   | (with_reducible exact waterhourref04_Without.mono _ _ _)
   | (with_reducible exact LeO.refl _)
   | (with_reducible exact LeO.none _)
   | (with_reducible refine LeO.ite ?_ ?_)
   | (with_reducible refine LeO.bind ?_ (fun _ => ?_))
   | exact ih0 _ _ _ _ _ _
   | exact ih1 _ _ _ _ _ _
   | exact ih2 _ _ _ _
   | exact ih3 _ _ _
   | exact refill_Closed.mono _ _
   | exact refill_Joined.mono _ _ _
   | exact waterhourlaw04_few.mono _ _ _
   | exact waterhourref04_Closed.mono _ _
   | exact waterhourref04_Joined.mono _ _ _
   | exact waterhourref04_Narrowed.mono _ _ _ _ _
   | exact waterhourref04_Same.mono _ _ _
   | exact waterhourref04_Without.mono _ _ _
   | exact LeO.none _
   | refine LeO.ite ?_ ?_
   | refine LeO.bind ?_ (fun _ => ?_)
theorem waterhourlaw04_RefillDays.mono : ∀ a0 a1 a2 a3 a4 k, LeO (waterhourlaw04_RefillDays.f k a0 a1 a2 a3 a4) (waterhourlaw04_RefillDays.f (k + 1) a0 a1 a2 a3 a4) := by
 intro a0 a1 a2 a3 a4 k
 obtain ⟨ih0, ih1, ih2, ih3⟩ := waterhourlaw04_RefillDays.mono_l k
 unfold waterhourlaw04_RefillDays.f
 repeat' first
   | (with_reducible exact ih0 _ _ _ _ _ _)
   | (with_reducible exact ih1 _ _ _ _ _ _)
   | (with_reducible exact ih2 _ _ _ _)
   | (with_reducible exact ih3 _ _ _)
   | (with_reducible exact refill_Closed.mono _ _)
   | (with_reducible exact refill_Joined.mono _ _ _)
   | (with_reducible exact waterhourlaw04_few.mono _ _ _)
   | (with_reducible exact waterhourref04_Closed.mono _ _)
   | (with_reducible exact waterhourref04_Joined.mono _ _ _)
   | (with_reducible exact waterhourref04_Narrowed.mono _ _ _ _ _)
   | (with_reducible exact waterhourref04_Same.mono _ _ _)
   | (with_reducible exact waterhourref04_Without.mono _ _ _)
   | (with_reducible exact LeO.refl _)
   | (with_reducible exact LeO.none _)
   | (with_reducible refine LeO.ite ?_ ?_)
   | (with_reducible refine LeO.bind ?_ (fun _ => ?_))
   | exact ih0 _ _ _ _ _ _
   | exact ih1 _ _ _ _ _ _
   | exact ih2 _ _ _ _
   | exact ih3 _ _ _
   | exact refill_Closed.mono _ _
   | exact refill_Joined.mono _ _ _
   | exact waterhourlaw04_few.mono _ _ _
   | exact waterhourref04_Closed.mono _ _
   | exact waterhourref04_Joined.mono _ _ _
   | exact waterhourref04_Narrowed.mono _ _ _ _ _
   | exact waterhourref04_Same.mono _ _ _
   | exact waterhourref04_Without.mono _ _ _
   | exact LeO.none _
   | refine LeO.ite ?_ ?_
   | refine LeO.bind ?_ (fun _ => ?_)
set_option maxHeartbeats 8000000 in
set_option maxRecDepth 100000 in
theorem waterhourlaw04_RefillDays.calls (k : Nat) (A0 : Option Addr) (c0 : Nat) (l0 : List (S51)) (A1 : Option Addr) (c1 : Nat) (l1 : List (S51)) (a2 : Int) (a3_0 : Int) (a3_1 : Int) (r : Bool) (w : World) (hr0 : Kd.C k51 w A0 l0.length l0) (hc0 : l0.length ≤ c0) (hr1 : Kd.C k51 w A1 l1.length l1) (hc1 : l1.length ≤ c1) (ht : TabB w) (hrt : Aside0 (r = true)) (h : waterhourlaw04_RefillDays.f k l0 l1 a2 a3_0 a3_1 = some r) :
  Calls Tryd.prog 17 #[.slice A0 l0.length c0, .slice A1 l1.length c1, .int .i64 a2, .agg #[.int .i64 a3_0, .int .i64 a3_1]] w fun e w' => e = .returned (.bool r) ∧ Below w.heap.size w w' := by
 have hu49 := Tryd.underlying49
 have HR0 := a_ hr0
 have HC0 := a_ hc0
 clear hr0 hc0
 have HR1 := a_ hr1
 have HC1 := a_ hc1
 clear hr1 hc1
 have HT := a_ ht
 clear ht
 have HB := a_ (Below.refl w.heap.size w)
 have H : ((law_sane.f).bind fun t917 => (if t917 = true then ((waterhourlaw04_few.f k l0 ([] : List (List Int))).bind fun t918 => (if t918 = true then ((waterhourlaw04_few.f k l1 ([] : List (List Int))).bind fun t919 => (waterhourlaw04_RefillDays.j0 k l0 l1 a2 (!t919) a3_0 a3_1)) else (waterhourlaw04_RefillDays.j0 k l0 l1 a2 true a3_0 a3_1))) else (some false))) = some r := h
 clear h
 replace H := Option.bind_eq_some_iff.mp H
 obtain ⟨t917, A50, H⟩ := H
 replace H : (if t917 = true then ((waterhourlaw04_few.f k l0 ([] : List (List Int))).bind fun t918 => (if t918 = true then ((waterhourlaw04_few.f k l1 ([] : List (List Int))).bind fun t919 => (waterhourlaw04_RefillDays.j0 k l0 l1 a2 (!t919) a3_0 a3_1)) else (waterhourlaw04_RefillDays.j0 k l0 l1 a2 true a3_0 a3_1))) else (some false)) = some r := H
 have A5 := a_ A50
 clear A50
 by_cases c6 : t917 = true
 ·subst c6
  have H1 : ((waterhourlaw04_few.f k l0 ([] : List (List Int))).bind fun t918 => (if t918 = true then ((waterhourlaw04_few.f k l1 ([] : List (List Int))).bind fun t919 => (waterhourlaw04_RefillDays.j0 k l0 l1 a2 (!t919) a3_0 a3_1)) else (waterhourlaw04_RefillDays.j0 k l0 l1 a2 true a3_0 a3_1))) = some r := by rw [if_pos rfl] at H; exact H
  clear H
  have H := H1
  clear H1
  have HC7 := a_ H
  clear H
  go_enter Tryd.func17, Tryd.ntmps17
  go_upto_region 3 with (first | ((with_reducible refine gate_dst (N := 7) rfl ?_); refine box_event ?hg (N := 7) ?hd (cs := #[.int .i64 a3_0, .int .i64 a3_1]) (t := 49) ?hr ?_; (case hd => rfl); (case hg => rfl); (case hr => first | (go_simp; done) | (go_simp; rfl)); intro gb916 hg w8 hbox hb; have n0_ := a_ (below_step bl_ hb); have n1_ := a_ (hbox); have n2_ := a_ ((bz_ (w := w) hg)); have n3_ := a_ ((bz_ (w := w) hg)); clear HB; have HB := n0_; have BK916 := n1_; have GW916 := n2_; have GE916 := n3_; clear n0_ n1_ n2_ n3_; clear hb hbox hg) | ((with_reducible refine gate_callee (f := 18) rfl ?_); refine goesL_ (some 13) rfl rfl Tryd.func18 (by kernel_rfl) rfl #[] rfl tm_ ?_; (with_reducible refine (law_sane.calls  true _ ?side1 A5.out).mono ?_); (case side1 => exact TabB.below HT.out bl_); rintro e w9 ⟨rfl, hb⟩; refine ⟨_, rfl, ?_⟩; have n0_ := a_ (bb_ BK916.out hb); have n1_ := a_ (below_step bl_ hb); clear BK916; clear HB; have BK916 := n0_; have HB := n1_; clear n0_ n1_; (try clear hb); (try clear hb2); (try clear hk); (try clear hi)))
  (try simp only [Act.put, List.setIfInBounds_toArray, List.set_cons_zero, List.set_cons_succ])
  go_cut [22] (fun v22 wc => ∃ (kq : Nat) (x22_6 : Bool), v22 = .bool x22_6 ∧ Aside0 (waterhourlaw04_RefillDays.j0 kq l0 l1 a2 x22_6 a3_0 a3_1 = some r) ∧ Aside0 (kq ≤ k) ∧ Aside0 (wc.heap[gb916]? = some (.cells #[.int .i64 a3_0, .int .i64 a3_1] 49 (0, 0))) ∧ Aside0 (Below w.heap.size w wc))
  case first =>
   have H := HC7.out
   clear HC7
   replace H := Option.bind_eq_some_iff.mp H
   obtain ⟨t918, A100, H⟩ := H
   replace H : (if t918 = true then ((waterhourlaw04_few.f k l1 ([] : List (List Int))).bind fun t919 => (waterhourlaw04_RefillDays.j0 k l0 l1 a2 (!t919) a3_0 a3_1)) else (waterhourlaw04_RefillDays.j0 k l0 l1 a2 true a3_0 a3_1)) = some r := H
   have A10 := a_ A100
   clear A100
   by_cases c11 : t918 = true
   ·subst c11
    have H1 : ((waterhourlaw04_few.f k l1 ([] : List (List Int))).bind fun t919 => (waterhourlaw04_RefillDays.j0 k l0 l1 a2 (!t919) a3_0 a3_1)) = some r := by rw [if_pos rfl] at H; exact H
    clear H
    have H := H1
    clear H1
    replace H := Option.bind_eq_some_iff.mp H
    obtain ⟨t919, A120, H⟩ := H
    replace H : (waterhourlaw04_RefillDays.j0 k l0 l1 a2 (!t919) a3_0 a3_1) = some r := H
    have A12 := a_ A120
    clear A120
    have H' := a_ H
    clear H
    go_wp2_with (first | ((with_reducible refine gate_callee (f := 19) rfl ?_); refine goesL_ (some 16) rfl rfl Tryd.func19 (by kernel_rfl) rfl #[.slice A0 l0.length c0, .slice none 0 0] rfl tm_ ?_; (refine (waterhourlaw04_few.calls k _ _ l0 _ _ ([] : List (List Int)) true _ ?side1 ?side2 ?side3 ?side4 A10.out).mono ?_); (case side1 => exact cl_ (Kd.C_below HR0.out HB.out)); (case side2 => exact HC0.out); (case side3 => exact Kd.C_nil _ _); (case side4 => exact Nat.le_refl _); rintro e w' ⟨rfl, ⟨nd, rfl⟩⟩; refine ⟨_, rfl, ?_⟩) | (go_at_call 19; (refine (waterhourlaw04_few.calls k _ _ l1 _ _ ([] : List (List Int)) t919 _ ?side1 ?side2 ?side3 ?side4 A12.out).mono ?_); (case side1 => exact cl_ (Kd.C_below HR1.out bl_)); (case side2 => exact HC1.out); (case side3 => exact Kd.C_nil _ _); (case side4 => exact Nat.le_refl _); rintro e w' ⟨rfl, ⟨nd, rfl⟩⟩))
    go_meet
    case rel => exact ⟨_, (!t919), (by first | rfl | (simp; done) | (simp [*]; done)), H', ⟨by first | omega | exact Nat.le_refl _⟩, ⟨bk_ BK916.out⟩, ⟨bl_⟩⟩
   ·replace c11 := Bool.eq_false_iff.mpr c11
    subst c11
    have H1 : (waterhourlaw04_RefillDays.j0 k l0 l1 a2 true a3_0 a3_1) = some r := by rw [if_neg (show ¬ (false = true) by decide)] at H; exact H
    clear H
    have H := H1
    clear H1
    have H' := a_ H
    clear H
    go_wp2_with (first | ((with_reducible refine gate_callee (f := 19) rfl ?_); refine goesL_ (some 16) rfl rfl Tryd.func19 (by kernel_rfl) rfl #[.slice A0 l0.length c0, .slice none 0 0] rfl tm_ ?_; (refine (waterhourlaw04_few.calls k _ _ l0 _ _ ([] : List (List Int)) false _ ?side1 ?side2 ?side3 ?side4 A10.out).mono ?_); (case side1 => exact cl_ (Kd.C_below HR0.out HB.out)); (case side2 => exact HC0.out); (case side3 => exact Kd.C_nil _ _); (case side4 => exact Nat.le_refl _); rintro e w' ⟨rfl, ⟨nd, rfl⟩⟩; refine ⟨_, rfl, ?_⟩))
    go_meet
    case rel => exact ⟨_, (true), (by first | rfl | (simp; done) | (simp [*]; done)), H', ⟨by first | omega | exact Nat.le_refl _⟩, ⟨bk_ BK916.out⟩, ⟨bl_⟩⟩
  case rest =>
   clear HC7
   try clear c1
   try clear p2
   try clear c6
   try clear c11
   obtain ⟨kq, x22_6, rfl, HA, HJ6, BK916, HB⟩ := hcut
   cases kq with
   | zero => exact absurd HA.out (by simp [waterhourlaw04_RefillDays.j0])
   | succ kj6 =>
    have H := HA.out
    clear HA
    simp only [waterhourlaw04_RefillDays.j0] at H
    by_cases c13 : x22_6 = true
    ·subst c13
     have H1 : (some true) = some r := by rw [if_pos rfl] at H; exact H
     clear H
     have H := H1
     clear H1
     obtain rfl := Option.some.inj H
     go_wp2
     go_ret
     exact ⟨by first | rfl | (simp [errW_none, errW_some] <;> rfl) | (simp [*, errW_none, errW_some] <;> rfl), bl_⟩
    ·replace c13 := Bool.eq_false_iff.mpr c13
     subst c13
     have H1 : ((refill_Closed.f kj6 l0).bind fun bt920 => ((waterhourref04_Closed.f kj6 l0).bind fun bt924 => ((waterhourref04_Same.f kj6 bt920.1 bt924.1).bind fun t928 => (if t928 = true then (waterhourlaw04_RefillDays.j1 kj6 l0 l1 a2 (bt920.2 != bt924.2) a3_0 a3_1) else (waterhourlaw04_RefillDays.j1 kj6 l0 l1 a2 true a3_0 a3_1))))) = some r := by rw [if_neg (show ¬ (false = true) by decide)] at H; exact H
     clear H
     have H := H1
     clear H1
     replace H := Option.bind_eq_some_iff.mp H
     obtain ⟨⟨t920, t921⟩, A140, H⟩ := H
     replace H : ((waterhourref04_Closed.f kj6 l0).bind fun bt924 => ((waterhourref04_Same.f kj6 t920 bt924.1).bind fun t928 => (if t928 = true then (waterhourlaw04_RefillDays.j1 kj6 l0 l1 a2 (t921 != bt924.2) a3_0 a3_1) else (waterhourlaw04_RefillDays.j1 kj6 l0 l1 a2 true a3_0 a3_1)))) = some r := H
     have A14 := a_ A140
     clear A140
     replace H := Option.bind_eq_some_iff.mp H
     obtain ⟨⟨t924, t925⟩, A150, H⟩ := H
     replace H : ((waterhourref04_Same.f kj6 t920 t924).bind fun t928 => (if t928 = true then (waterhourlaw04_RefillDays.j1 kj6 l0 l1 a2 (t921 != t925) a3_0 a3_1) else (waterhourlaw04_RefillDays.j1 kj6 l0 l1 a2 true a3_0 a3_1))) = some r := H
     have A15 := a_ A150
     clear A150
     have HC16 := a_ H
     clear H
     go_upto_region 7 with (first | ((with_reducible refine gate_callee (f := 32) rfl ?_); refine goesL_ (some 25) rfl rfl Tryd.func32 (by kernel_rfl) rfl #[.slice A0 l0.length c0] rfl tm_ ?_; (with_reducible refine (refill_Closed.calls kj6 _ _ l0 t920 t921 _ ?side1 ?side2 A14.out).mono ?_); (case side1 => exact cl_ (Kd.C_below HR0.out HB.out)); (case side2 => exact HC0.out); rintro e w17 ⟨v922, rfl, ho0, hb⟩; refine ⟨_, rfl, ?_⟩; have n0_ := a_ (Kd.R_lower ho0 (below_size bl_)); have n1_ := a_ (bb_ BK916.out hb); have n2_ := a_ (below_step bl_ hb); clear BK916; clear HB; have HO923 := n0_; have BK916 := n1_; have HB := n2_; clear n0_ n1_ n2_; (try clear hb); (try clear hb2); (try clear hk); (try clear hi); (try clear ho0)) | ((with_reducible refine gate_callee (f := 57) rfl ?_); refine goesL_ (some 30) rfl rfl Tryd.func57 (by kernel_rfl) rfl #[.slice A0 l0.length c0] rfl tm_ ?_; (with_reducible refine (waterhourref04_Closed.calls kj6 _ _ l0 t924 t925 _ ?side1 ?side2 A15.out).mono ?_); (case side1 => exact cl_ (Kd.C_below HR0.out HB.out)); (case side2 => exact HC0.out); rintro e w18 ⟨v926, rfl, ho0, hb⟩; refine ⟨_, rfl, ?_⟩; have n0_ := a_ (Kd.R_elder' (rl_ HO923.out) (Kd.R_base ho0) hb); have n1_ := a_ (Kd.R_lower (Kd.R_new' ho0 (Kd.R_lt (rl_ HO923.out))) (below_size bl_)); have n2_ := a_ (bb_ BK916.out hb); have n3_ := a_ (below_step bl_ hb); clear HO923; clear BK916; clear HB; have HO923 := n0_; have HO927 := n1_; have BK916 := n2_; have HB := n3_; clear n0_ n1_ n2_ n3_; (try clear hb); (try clear hb2); (try clear hk); (try clear hi); (try clear ho0)))
     (try simp only [Act.put, List.setIfInBounds_toArray, List.set_cons_zero, List.set_cons_succ])
     go_cut [41] (fun v41 wc => ∃ (kq : Nat) (x41_15 : Bool), v41 = .bool x41_15 ∧ Aside0 (waterhourlaw04_RefillDays.j1 kq l0 l1 a2 x41_15 a3_0 a3_1 = some r) ∧ Aside0 (kq ≤ kj6) ∧ Aside0 (wc.heap[gb916]? = some (.cells #[.int .i64 a3_0, .int .i64 a3_1] 49 (0, 0))) ∧ Aside0 (Below w.heap.size w wc))
     case first =>
      have H := HC16.out
      clear HC16
      replace H := Option.bind_eq_some_iff.mp H
      obtain ⟨t928, A190, H⟩ := H
      replace H : (if t928 = true then (waterhourlaw04_RefillDays.j1 kj6 l0 l1 a2 (t921 != t925) a3_0 a3_1) else (waterhourlaw04_RefillDays.j1 kj6 l0 l1 a2 true a3_0 a3_1)) = some r := H
      have A19 := a_ A190
      clear A190
      by_cases c20 : t928 = true
      ·subst c20
       have H1 : (waterhourlaw04_RefillDays.j1 kj6 l0 l1 a2 (t921 != t925) a3_0 a3_1) = some r := by rw [if_pos rfl] at H; exact H
       clear H
       have H := H1
       clear H1
       have H' := a_ H
       clear H
       obtain ⟨Ao21, co21, eo21⟩ := Kd.R_slice HO923.out
       subst eo21
       obtain ⟨Ao22, co22, eo22⟩ := Kd.R_slice HO927.out
       subst eo22
       go_wp2_with (first | ((with_reducible refine gate_callee (f := 34) rfl ?_); refine goesL_ (some 35) rfl rfl Tryd.func34 (by kernel_rfl) rfl #[.slice Ao21 t920.length co21, .slice Ao22 t924.length co22] rfl tm_ ?_; (with_reducible refine (waterhourref04_Same.calls kj6 _ _ t920 _ _ t924 true _ ?side1 ?side2 ?side3 ?side4 A19.out).mono ?_); (case side1 => exact cl_ ((Kd.R_reads' HO923.out).2.2)); (case side2 => exact (Kd.R_reads' HO923.out).2.1); (case side3 => exact cl_ ((Kd.R_reads' HO927.out).2.2)); (case side4 => exact (Kd.R_reads' HO927.out).2.1); rintro e w' ⟨rfl, ⟨nd, rfl⟩⟩; refine ⟨_, rfl, ?_⟩))
       go_meet
       case rel => exact ⟨_, ((t921 != t925)), (by first | rfl | (simp; done) | (simp [*]; done)), H', ⟨by have := HJ6.out; first | omega | exact Nat.le_refl _⟩, ⟨bk_ BK916.out⟩, ⟨bl_⟩⟩
      ·replace c20 := Bool.eq_false_iff.mpr c20
       subst c20
       have H1 : (waterhourlaw04_RefillDays.j1 kj6 l0 l1 a2 true a3_0 a3_1) = some r := by rw [if_neg (show ¬ (false = true) by decide)] at H; exact H
       clear H
       have H := H1
       clear H1
       have H' := a_ H
       clear H
       obtain ⟨Ao23, co23, eo23⟩ := Kd.R_slice HO923.out
       subst eo23
       obtain ⟨Ao24, co24, eo24⟩ := Kd.R_slice HO927.out
       subst eo24
       go_wp2_with (first | ((with_reducible refine gate_callee (f := 34) rfl ?_); refine goesL_ (some 35) rfl rfl Tryd.func34 (by kernel_rfl) rfl #[.slice Ao23 t920.length co23, .slice Ao24 t924.length co24] rfl tm_ ?_; (with_reducible refine (waterhourref04_Same.calls kj6 _ _ t920 _ _ t924 false _ ?side1 ?side2 ?side3 ?side4 A19.out).mono ?_); (case side1 => exact cl_ ((Kd.R_reads' HO923.out).2.2)); (case side2 => exact (Kd.R_reads' HO923.out).2.1); (case side3 => exact cl_ ((Kd.R_reads' HO927.out).2.2)); (case side4 => exact (Kd.R_reads' HO927.out).2.1); rintro e w' ⟨rfl, ⟨nd, rfl⟩⟩; refine ⟨_, rfl, ?_⟩))
       go_meet
       case rel => exact ⟨_, (true), (by first | rfl | (simp; done) | (simp [*]; done)), H', ⟨by have := HJ6.out; first | omega | exact Nat.le_refl _⟩, ⟨bk_ BK916.out⟩, ⟨bl_⟩⟩
     case rest =>
      clear HC16
      try clear c1
      try clear c2
      try clear p2
      try clear c3
      try clear c5
      try clear c6
      try clear c11
      try clear c13
      try clear c17
      try clear c18
      try clear c19
      try clear c20
      try clear p2
      obtain ⟨kq, x41_15, rfl, HA, HJ15, BK916, HB⟩ := hcut
      cases kq with
      | zero => exact absurd HA.out (by simp [waterhourlaw04_RefillDays.j1])
      | succ kj15 =>
       have H := HA.out
       clear HA
       simp only [waterhourlaw04_RefillDays.j1] at H
       by_cases c25 : x41_15 = true
       ·subst c25
        have H1 : (some false) = some r := by rw [if_pos rfl] at H; exact H
        clear H
        have H := H1
        clear H1
        exact absurd (H.trans (congrArg some hrt.out)) (by simp)
       ·replace c25 := Bool.eq_false_iff.mpr c25
        subst c25
        have H1 : ((refill_Known.f l0 a2 a3_0 a3_1).bind fun bt929 => ((waterhourref04_Narrowed.f kj15 l0 a2 a3_0 a3_1).bind fun bt933 => ((waterhourref04_Same.f kj15 bt929.1 bt933.1).bind fun t937 => (if t937 = true then (waterhourlaw04_RefillDays.j2 kj15 l0 l1 a2 (bt929.2 != bt933.2)) else (waterhourlaw04_RefillDays.j2 kj15 l0 l1 a2 true))))) = some r := by rw [if_neg (show ¬ (false = true) by decide)] at H; exact H
        clear H
        have H := H1
        clear H1
        replace H := Option.bind_eq_some_iff.mp H
        obtain ⟨⟨t929, t932⟩, A260, H⟩ := H
        replace H : ((waterhourref04_Narrowed.f kj15 l0 a2 a3_0 a3_1).bind fun bt933 => ((waterhourref04_Same.f kj15 t929 bt933.1).bind fun t937 => (if t937 = true then (waterhourlaw04_RefillDays.j2 kj15 l0 l1 a2 (t932 != bt933.2)) else (waterhourlaw04_RefillDays.j2 kj15 l0 l1 a2 true)))) = some r := H
        have A26 := a_ A260
        clear A260
        replace H := Option.bind_eq_some_iff.mp H
        obtain ⟨⟨t933, t936⟩, A270, H⟩ := H
        replace H : ((waterhourref04_Same.f kj15 t929 t933).bind fun t937 => (if t937 = true then (waterhourlaw04_RefillDays.j2 kj15 l0 l1 a2 (t932 != t936)) else (waterhourlaw04_RefillDays.j2 kj15 l0 l1 a2 true))) = some r := H
        have A27 := a_ A270
        clear A270
        have HC28 := a_ H
        clear H
        have hcz29_0 : wc.cell? ⟨gb916, 0, none⟩ = some (.int .i64 a3_0) := (blk_cell BK916.out 0).trans rfl
        have hcz29_1 : wc.cell? ⟨gb916, 1, none⟩ = some (.int .i64 a3_1) := (blk_cell BK916.out 1).trans rfl
        have hfz29_0 := blk_frozen BK916.out 0
        have hfz29_1 := blk_frozen BK916.out 1
        go_upto_region 11 with (first | ((with_reducible refine gate_callee (f := 45) rfl ?_); refine goesL_ (some 46) rfl rfl Tryd.func45 (by kernel_rfl) rfl #[.slice A0 l0.length c0, .int .i64 a2, .agg #[.int .i64 a3_0, .int .i64 a3_1]] rfl tm_ ?_; (with_reducible refine (refill_Known.calls _ _ l0 a2 a3_0 a3_1 t929 t932 _ ?side1 ?side2 A26.out).mono ?_); (case side1 => exact cl_ (Kd.C_below HR0.out HB.out)); (case side2 => exact HC0.out); rintro e w30 ⟨v930, rfl, ho0, hb⟩; refine ⟨_, rfl, ?_⟩; have n0_ := a_ (Kd.R_lower ho0 (below_size bl_)); have n1_ := a_ (bb_ BK916.out hb); have n2_ := a_ (below_step bl_ hb); clear BK916; clear HB; have HO931 := n0_; have BK916 := n1_; have HB := n2_; clear n0_ n1_ n2_; (try clear hb); (try clear hb2); (try clear hk); (try clear hi); (try clear ho0); have hcz31_0 : w30.cell? ⟨gb916, 0, none⟩ = some (.int .i64 a3_0) := (blk_cell BK916.out 0).trans rfl; have hcz31_1 : w30.cell? ⟨gb916, 1, none⟩ = some (.int .i64 a3_1) := (blk_cell BK916.out 1).trans rfl; have hfz31_0 := blk_frozen BK916.out 0; have hfz31_1 := blk_frozen BK916.out 1) | ((with_reducible refine gate_callee (f := 58) rfl ?_); refine goesL_ (some 53) rfl rfl Tryd.func58 (by kernel_rfl) rfl #[.slice A0 l0.length c0, .int .i64 a2, .agg #[.int .i64 a3_0, .int .i64 a3_1]] rfl tm_ ?_; (with_reducible refine (waterhourref04_Narrowed.calls kj15 _ _ l0 a2 a3_0 a3_1 t933 t936 _ ?side1 ?side2 A27.out).mono ?_); (case side1 => exact cl_ (Kd.C_below HR0.out HB.out)); (case side2 => exact HC0.out); rintro e w32 ⟨v934, rfl, ho0, hb⟩; refine ⟨_, rfl, ?_⟩; have n0_ := a_ (Kd.R_elder' (rl_ HO931.out) (Kd.R_base ho0) hb); have n1_ := a_ (Kd.R_lower (Kd.R_new' ho0 (Kd.R_lt (rl_ HO931.out))) (below_size bl_)); have n2_ := a_ (bb_ BK916.out hb); have n3_ := a_ (below_step bl_ hb); clear HO931; clear BK916; clear HB; have HO931 := n0_; have HO935 := n1_; have BK916 := n2_; have HB := n3_; clear n0_ n1_ n2_ n3_; (try clear hb); (try clear hb2); (try clear hk); (try clear hi); (try clear ho0)))
        (try simp only [Act.put, List.setIfInBounds_toArray, List.set_cons_zero, List.set_cons_succ])
        go_cut [64] (fun v64 wc => ∃ (kq : Nat) (x64_27 : Bool), v64 = .bool x64_27 ∧ Aside0 (waterhourlaw04_RefillDays.j2 kq l0 l1 a2 x64_27 = some r) ∧ Aside0 (kq ≤ kj15) ∧ Aside0 (wc.heap[gb916]? = some (.cells #[.int .i64 a3_0, .int .i64 a3_1] 49 (0, 0))) ∧ Aside0 (Below w.heap.size w wc))
        case first =>
         have H := HC28.out
         clear HC28
         replace H := Option.bind_eq_some_iff.mp H
         obtain ⟨t937, A330, H⟩ := H
         replace H : (if t937 = true then (waterhourlaw04_RefillDays.j2 kj15 l0 l1 a2 (t932 != t936)) else (waterhourlaw04_RefillDays.j2 kj15 l0 l1 a2 true)) = some r := H
         have A33 := a_ A330
         clear A330
         by_cases c34 : t937 = true
         ·subst c34
          have H1 : (waterhourlaw04_RefillDays.j2 kj15 l0 l1 a2 (t932 != t936)) = some r := by rw [if_pos rfl] at H; exact H
          clear H
          have H := H1
          clear H1
          have H' := a_ H
          clear H
          obtain ⟨Ao35, co35, eo35⟩ := Kd.R_slice HO931.out
          subst eo35
          obtain ⟨Ao36, co36, eo36⟩ := Kd.R_slice HO935.out
          subst eo36
          go_wp2_with (first | ((with_reducible refine gate_callee (f := 34) rfl ?_); refine goesL_ (some 58) rfl rfl Tryd.func34 (by kernel_rfl) rfl #[.slice Ao35 t929.length co35, .slice Ao36 t933.length co36] rfl tm_ ?_; (with_reducible refine (waterhourref04_Same.calls kj15 _ _ t929 _ _ t933 true _ ?side1 ?side2 ?side3 ?side4 A33.out).mono ?_); (case side1 => exact cl_ ((Kd.R_reads' HO931.out).2.2)); (case side2 => exact (Kd.R_reads' HO931.out).2.1); (case side3 => exact cl_ ((Kd.R_reads' HO935.out).2.2)); (case side4 => exact (Kd.R_reads' HO935.out).2.1); rintro e w' ⟨rfl, ⟨nd, rfl⟩⟩; refine ⟨_, rfl, ?_⟩))
          go_meet
          case rel => exact ⟨_, ((t932 != t936)), (by first | rfl | (simp; done) | (simp [*]; done)), H', ⟨by have := HJ6.out; have := HJ15.out; first | omega | exact Nat.le_refl _⟩, ⟨bk_ BK916.out⟩, ⟨bl_⟩⟩
         ·replace c34 := Bool.eq_false_iff.mpr c34
          subst c34
          have H1 : (waterhourlaw04_RefillDays.j2 kj15 l0 l1 a2 true) = some r := by rw [if_neg (show ¬ (false = true) by decide)] at H; exact H
          clear H
          have H := H1
          clear H1
          have H' := a_ H
          clear H
          obtain ⟨Ao37, co37, eo37⟩ := Kd.R_slice HO931.out
          subst eo37
          obtain ⟨Ao38, co38, eo38⟩ := Kd.R_slice HO935.out
          subst eo38
          go_wp2_with (first | ((with_reducible refine gate_callee (f := 34) rfl ?_); refine goesL_ (some 58) rfl rfl Tryd.func34 (by kernel_rfl) rfl #[.slice Ao37 t929.length co37, .slice Ao38 t933.length co38] rfl tm_ ?_; (with_reducible refine (waterhourref04_Same.calls kj15 _ _ t929 _ _ t933 false _ ?side1 ?side2 ?side3 ?side4 A33.out).mono ?_); (case side1 => exact cl_ ((Kd.R_reads' HO931.out).2.2)); (case side2 => exact (Kd.R_reads' HO931.out).2.1); (case side3 => exact cl_ ((Kd.R_reads' HO935.out).2.2)); (case side4 => exact (Kd.R_reads' HO935.out).2.1); rintro e w' ⟨rfl, ⟨nd, rfl⟩⟩; refine ⟨_, rfl, ?_⟩))
          go_meet
          case rel => exact ⟨_, (true), (by first | rfl | (simp; done) | (simp [*]; done)), H', ⟨by have := HJ6.out; have := HJ15.out; first | omega | exact Nat.le_refl _⟩, ⟨bk_ BK916.out⟩, ⟨bl_⟩⟩
        case rest =>
         clear HC28
         try clear c1
         try clear c2
         try clear p2
         try clear c3
         try clear c4
         try clear c5
         try clear c6
         try clear c11
         try clear c13
         try clear c17
         try clear c18
         try clear c19
         try clear c20
         try clear c25
         try clear c32
         try clear c34
         try clear hcz29_0
         try clear hcz29_1
         try clear hcz31_0
         try clear hcz31_1
         try clear hfz29_0
         try clear hfz29_1
         try clear hfz31_0
         try clear hfz31_1
         try clear p2
         obtain ⟨kq, x64_27, rfl, HA, HJ27, BK916, HB⟩ := hcut
         cases kq with
         | zero => exact absurd HA.out (by simp [waterhourlaw04_RefillDays.j2])
         | succ kj27 =>
          have H := HA.out
          clear HA
          simp only [waterhourlaw04_RefillDays.j2] at H
          by_cases c39 : x64_27 = true
          ·subst c39
           have H1 : (some false) = some r := by rw [if_pos rfl] at H; exact H
           clear H
           have H := H1
           clear H1
           exact absurd (H.trans (congrArg some hrt.out)) (by simp)
          ·replace c39 := Bool.eq_false_iff.mpr c39
           subst c39
           have H1 : ((refill_Without.f l0 a2).bind fun bt938 => ((waterhourref04_Without.f kj27 l0 a2).bind fun bt942 => ((waterhourref04_Same.f kj27 bt938.1 bt942.1).bind fun t946 => (if t946 = true then (waterhourlaw04_RefillDays.j3 kj27 l0 l1 (bt938.2 != bt942.2)) else (waterhourlaw04_RefillDays.j3 kj27 l0 l1 true))))) = some r := by rw [if_neg (show ¬ (false = true) by decide)] at H; exact H
           clear H
           have H := H1
           clear H1
           replace H := Option.bind_eq_some_iff.mp H
           obtain ⟨⟨t938, t939⟩, A400, H⟩ := H
           replace H : ((waterhourref04_Without.f kj27 l0 a2).bind fun bt942 => ((waterhourref04_Same.f kj27 t938 bt942.1).bind fun t946 => (if t946 = true then (waterhourlaw04_RefillDays.j3 kj27 l0 l1 (t939 != bt942.2)) else (waterhourlaw04_RefillDays.j3 kj27 l0 l1 true)))) = some r := H
           have A40 := a_ A400
           clear A400
           replace H := Option.bind_eq_some_iff.mp H
           obtain ⟨⟨t942, t943⟩, A410, H⟩ := H
           replace H : ((waterhourref04_Same.f kj27 t938 t942).bind fun t946 => (if t946 = true then (waterhourlaw04_RefillDays.j3 kj27 l0 l1 (t939 != t943)) else (waterhourlaw04_RefillDays.j3 kj27 l0 l1 true))) = some r := H
           have A41 := a_ A410
           clear A410
           have HC42 := a_ H
           clear H
           go_upto_region 15 with (first | ((with_reducible refine gate_callee (f := 35) rfl ?_); refine goesL_ (some 68) rfl rfl Tryd.func35 (by kernel_rfl) rfl #[.slice A0 l0.length c0, .int .i64 a2] rfl tm_ ?_; (with_reducible refine (refill_Without.calls _ _ l0 a2 t938 t939 _ ?side1 ?side2 A40.out).mono ?_); (case side1 => exact cl_ (Kd.C_below HR0.out HB.out)); (case side2 => exact HC0.out); rintro e w43 ⟨v940, rfl, ho0, hb⟩; refine ⟨_, rfl, ?_⟩; have n0_ := a_ (Kd.R_lower ho0 (below_size bl_)); have n1_ := a_ (bb_ BK916.out hb); have n2_ := a_ (below_step bl_ hb); clear BK916; clear HB; have HO941 := n0_; have BK916 := n1_; have HB := n2_; clear n0_ n1_ n2_; (try clear hb); (try clear hb2); (try clear hk); (try clear hi); (try clear ho0)) | ((with_reducible refine gate_callee (f := 59) rfl ?_); refine goesL_ (some 74) rfl rfl Tryd.func59 (by kernel_rfl) rfl #[.slice A0 l0.length c0, .int .i64 a2] rfl tm_ ?_; (with_reducible refine (waterhourref04_Without.calls kj27 _ _ l0 a2 t942 t943 _ ?side1 ?side2 A41.out).mono ?_); (case side1 => exact cl_ (Kd.C_below HR0.out HB.out)); (case side2 => exact HC0.out); rintro e w44 ⟨v944, rfl, ho0, hb⟩; refine ⟨_, rfl, ?_⟩; have n0_ := a_ (Kd.R_elder' (rl_ HO941.out) (Kd.R_base ho0) hb); have n1_ := a_ (Kd.R_lower (Kd.R_new' ho0 (Kd.R_lt (rl_ HO941.out))) (below_size bl_)); have n2_ := a_ (bb_ BK916.out hb); have n3_ := a_ (below_step bl_ hb); clear HO941; clear BK916; clear HB; have HO941 := n0_; have HO945 := n1_; have BK916 := n2_; have HB := n3_; clear n0_ n1_ n2_ n3_; (try clear hb); (try clear hb2); (try clear hk); (try clear hi); (try clear ho0)))
           (try simp only [Act.put, List.setIfInBounds_toArray, List.set_cons_zero, List.set_cons_succ])
           go_cut [85] (fun v85 wc => ∃ (kq : Nat) (x85_41 : Bool), v85 = .bool x85_41 ∧ Aside0 (waterhourlaw04_RefillDays.j3 kq l0 l1 x85_41 = some r) ∧ Aside0 (kq ≤ kj27) ∧ Aside0 (wc.heap[gb916]? = some (.cells #[.int .i64 a3_0, .int .i64 a3_1] 49 (0, 0))) ∧ Aside0 (Below w.heap.size w wc))
           case first =>
            have H := HC42.out
            clear HC42
            replace H := Option.bind_eq_some_iff.mp H
            obtain ⟨t946, A450, H⟩ := H
            replace H : (if t946 = true then (waterhourlaw04_RefillDays.j3 kj27 l0 l1 (t939 != t943)) else (waterhourlaw04_RefillDays.j3 kj27 l0 l1 true)) = some r := H
            have A45 := a_ A450
            clear A450
            by_cases c46 : t946 = true
            ·subst c46
             have H1 : (waterhourlaw04_RefillDays.j3 kj27 l0 l1 (t939 != t943)) = some r := by rw [if_pos rfl] at H; exact H
             clear H
             have H := H1
             clear H1
             have H' := a_ H
             clear H
             obtain ⟨Ao47, co47, eo47⟩ := Kd.R_slice HO941.out
             subst eo47
             obtain ⟨Ao48, co48, eo48⟩ := Kd.R_slice HO945.out
             subst eo48
             go_wp2_with (first | ((with_reducible refine gate_callee (f := 34) rfl ?_); refine goesL_ (some 79) rfl rfl Tryd.func34 (by kernel_rfl) rfl #[.slice Ao47 t938.length co47, .slice Ao48 t942.length co48] rfl tm_ ?_; (with_reducible refine (waterhourref04_Same.calls kj27 _ _ t938 _ _ t942 true _ ?side1 ?side2 ?side3 ?side4 A45.out).mono ?_); (case side1 => exact cl_ ((Kd.R_reads' HO941.out).2.2)); (case side2 => exact (Kd.R_reads' HO941.out).2.1); (case side3 => exact cl_ ((Kd.R_reads' HO945.out).2.2)); (case side4 => exact (Kd.R_reads' HO945.out).2.1); rintro e w' ⟨rfl, ⟨nd, rfl⟩⟩; refine ⟨_, rfl, ?_⟩))
             go_meet
             case rel => exact ⟨_, ((t939 != t943)), (by first | rfl | (simp; done) | (simp [*]; done)), H', ⟨by have := HJ6.out; have := HJ15.out; have := HJ27.out; first | omega | exact Nat.le_refl _⟩, ⟨bk_ BK916.out⟩, ⟨bl_⟩⟩
            ·replace c46 := Bool.eq_false_iff.mpr c46
             subst c46
             have H1 : (waterhourlaw04_RefillDays.j3 kj27 l0 l1 true) = some r := by rw [if_neg (show ¬ (false = true) by decide)] at H; exact H
             clear H
             have H := H1
             clear H1
             have H' := a_ H
             clear H
             obtain ⟨Ao49, co49, eo49⟩ := Kd.R_slice HO941.out
             subst eo49
             obtain ⟨Ao50, co50, eo50⟩ := Kd.R_slice HO945.out
             subst eo50
             go_wp2_with (first | ((with_reducible refine gate_callee (f := 34) rfl ?_); refine goesL_ (some 79) rfl rfl Tryd.func34 (by kernel_rfl) rfl #[.slice Ao49 t938.length co49, .slice Ao50 t942.length co50] rfl tm_ ?_; (with_reducible refine (waterhourref04_Same.calls kj27 _ _ t938 _ _ t942 false _ ?side1 ?side2 ?side3 ?side4 A45.out).mono ?_); (case side1 => exact cl_ ((Kd.R_reads' HO941.out).2.2)); (case side2 => exact (Kd.R_reads' HO941.out).2.1); (case side3 => exact cl_ ((Kd.R_reads' HO945.out).2.2)); (case side4 => exact (Kd.R_reads' HO945.out).2.1); rintro e w' ⟨rfl, ⟨nd, rfl⟩⟩; refine ⟨_, rfl, ?_⟩))
             go_meet
             case rel => exact ⟨_, (true), (by first | rfl | (simp; done) | (simp [*]; done)), H', ⟨by have := HJ6.out; have := HJ15.out; have := HJ27.out; first | omega | exact Nat.le_refl _⟩, ⟨bk_ BK916.out⟩, ⟨bl_⟩⟩
           case rest =>
            clear HC42
            try clear c1
            try clear c2
            try clear p2
            try clear c3
            try clear c4
            try clear c5
            try clear c6
            try clear c11
            try clear c13
            try clear c17
            try clear c18
            try clear c19
            try clear c20
            try clear c25
            try clear c32
            try clear c34
            try clear c35
            try clear c39
            try clear c45
            try clear c46
            try clear hcz29_0
            try clear hcz29_1
            try clear hcz31_0
            try clear hcz31_1
            try clear hfz29_0
            try clear hfz29_1
            try clear hfz31_0
            try clear hfz31_1
            try clear p2
            obtain ⟨kq, x85_41, rfl, HA, HJ41, BK916, HB⟩ := hcut
            cases kq with
            | zero => exact absurd HA.out (by simp [waterhourlaw04_RefillDays.j3])
            | succ kj41 =>
             have H := HA.out
             clear HA
             simp only [waterhourlaw04_RefillDays.j3] at H
             by_cases c51 : x85_41 = true
             ·subst c51
              have H1 : (some false) = some r := by rw [if_pos rfl] at H; exact H
              clear H
              have H := H1
              clear H1
              exact absurd (H.trans (congrArg some hrt.out)) (by simp)
             ·replace c51 := Bool.eq_false_iff.mpr c51
              subst c51
              have H1 : ((refill_Joined.f kj41 l0 l1).bind fun bt947 => ((waterhourref04_Joined.f kj41 l0 l1).bind fun bt951 => ((waterhourref04_Same.f kj41 bt947.1 bt951.1).bind fun t955 => (if t955 = true then (some (bt947.2 == bt951.2)) else (some false))))) = some r := by rw [if_neg (show ¬ (false = true) by decide)] at H; exact H
              clear H
              have H := H1
              clear H1
              replace H := Option.bind_eq_some_iff.mp H
              obtain ⟨⟨t947, t950⟩, A520, H⟩ := H
              replace H : ((waterhourref04_Joined.f kj41 l0 l1).bind fun bt951 => ((waterhourref04_Same.f kj41 t947 bt951.1).bind fun t955 => (if t955 = true then (some (t950 == bt951.2)) else (some false)))) = some r := H
              have A52 := a_ A520
              clear A520
              replace H := Option.bind_eq_some_iff.mp H
              obtain ⟨⟨t951, t952⟩, A530, H⟩ := H
              replace H : ((waterhourref04_Same.f kj41 t947 t951).bind fun t955 => (if t955 = true then (some (t950 == t952)) else (some false))) = some r := H
              have A53 := a_ A530
              clear A530
              replace H := Option.bind_eq_some_iff.mp H
              obtain ⟨t955, A540, H⟩ := H
              replace H : (if t955 = true then (some (t950 == t952)) else (some false)) = some r := H
              have A54 := a_ A540
              clear A540
              by_cases c55 : t955 = true
              ·subst c55
               have H1 : (some (t950 == t952)) = some r := by rw [if_pos rfl] at H; exact H
               clear H
               have H := H1
               clear H1
               obtain rfl := Option.some.inj H
               go_wp2_with (first | ((with_reducible refine gate_callee (f := 39) rfl ?_); refine goesL_ (some 89) rfl rfl Tryd.func39 (by kernel_rfl) rfl #[.slice A0 l0.length c0, .slice A1 l1.length c1] rfl tm_ ?_; (with_reducible refine (refill_Joined.calls kj41 (fun k_ => k_ < w.heap.size) _ _ l0 (fun k_ => k_ < w.heap.size) _ _ l1 t947 t950 _ ?side1 ?side2 A52.out).mono ?_); (case side1 => exact Kd.V_mk HC0.out (Kd.F_below (Kd.C_F k51_heap HR0.out) bl_)); (case side2 => exact Kd.V_mk HC1.out (Kd.F_below (Kd.C_F k51_heap HR1.out) bl_)); rintro e w56 ⟨v948, rfl, ho0, hb⟩; refine ⟨_, rfl, ?_⟩; have n0_ := a_ (Kd.R_lower (Kd.R_mono (ok' := fun k_ => True) ho0 (fun _ hk_ => trivial)) (below_size bl_)); have n1_ := a_ (bb_ BK916.out hb); have n2_ := a_ (below_step bl_ hb); clear BK916; clear HB; have HO949 := n0_; have BK916 := n1_; have HB := n2_; clear n0_ n1_ n2_; (try clear hb); (try clear hb2); (try clear hk); (try clear hi); (try clear ho0)) | ((with_reducible refine gate_callee (f := 60) rfl ?_); refine goesL_ (some 95) rfl rfl Tryd.func60 (by kernel_rfl) rfl #[.slice A0 l0.length c0, .slice A1 l1.length c1] rfl tm_ ?_; (with_reducible refine (waterhourref04_Joined.calls kj41 _ _ l0 _ _ l1 t951 t952 _ ?side1 ?side2 ?side3 ?side4 A53.out).mono ?_); (case side1 => exact cl_ (Kd.C_below HR0.out HB.out)); (case side2 => exact HC0.out); (case side3 => exact cl_ (Kd.C_below HR1.out HB.out)); (case side4 => exact HC1.out); rintro e w57 ⟨v953, rfl, ho0, hb⟩; refine ⟨_, rfl, ?_⟩; have n0_ := a_ (Kd.R_elder' (rl_ HO949.out) (Kd.R_base ho0) hb); have n1_ := a_ (Kd.R_lower (Kd.R_new' ho0 (Kd.R_lt (rl_ HO949.out))) (below_size bl_)); have n2_ := a_ (bb_ BK916.out hb); have n3_ := a_ (below_step bl_ hb); clear HO949; clear BK916; clear HB; have HO949 := n0_; have HO954 := n1_; have BK916 := n2_; have HB := n3_; clear n0_ n1_ n2_ n3_; (try clear hb); (try clear hb2); (try clear hk); (try clear hi); (try clear ho0); obtain ⟨Ao58, co58, eo58⟩ := Kd.R_slice HO949.out; subst eo58; obtain ⟨Ao59, co59, eo59⟩ := Kd.R_slice HO954.out; subst eo59) | ((with_reducible refine gate_callee (f := 34) rfl ?_); refine goesL_ (some 100) rfl rfl Tryd.func34 (by kernel_rfl) rfl #[.slice Ao58 t947.length co58, .slice Ao59 t951.length co59] rfl tm_ ?_; (with_reducible refine (waterhourref04_Same.calls kj41 _ _ t947 _ _ t951 true _ ?side1 ?side2 ?side3 ?side4 A54.out).mono ?_); (case side1 => exact cl_ ((Kd.R_reads' HO949.out).2.2)); (case side2 => exact (Kd.R_reads' HO949.out).2.1); (case side3 => exact cl_ ((Kd.R_reads' HO954.out).2.2)); (case side4 => exact (Kd.R_reads' HO954.out).2.1); rintro e w' ⟨rfl, ⟨nd, rfl⟩⟩; refine ⟨_, rfl, ?_⟩))
               go_ret
               exact ⟨by first | rfl | (simp [errW_none, errW_some] <;> rfl) | (simp [*, errW_none, errW_some] <;> rfl), bl_⟩
              ·replace c55 := Bool.eq_false_iff.mpr c55
               subst c55
               have H1 : (some false) = some r := by rw [if_neg (show ¬ (false = true) by decide)] at H; exact H
               clear H
               have H := H1
               clear H1
               exact absurd (H.trans (congrArg some hrt.out)) (by simp)
 ·replace c6 := Bool.eq_false_iff.mpr c6
  subst c6
  have H1 : (some false) = some r := by rw [if_neg (show ¬ (false = true) by decide)] at H; exact H
  clear H
  have H := H1
  clear H1
  exact absurd (H.trans (congrArg some hrt.out)) (by simp)
end Go.Proofs.YtgiihjcpgjpkcaaDoor.Q
