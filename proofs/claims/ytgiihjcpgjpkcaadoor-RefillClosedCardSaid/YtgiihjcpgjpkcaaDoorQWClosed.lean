/- Contracts of functions of the given program: each Go function as a plain Lean function (name.f) and the proof that its call answers just so, for every reading of its arguments. Written by the session's program wip/xprint.py out of the translation. -/
import Derived.Test.YtgiihjcpgjpkcaaDoorQ0
import Derived.Test.YtgiihjcpgjpkcaaDoorQC
import Derived.Test.YtgiihjcpgjpkcaaDoorQF
import Derived.Test.YtgiihjcpgjpkcaaDoorQI
import Derived.Test.YtgiihjcpgjpkcaaDoorQM
import Derived.Test.YtgiihjcpgjpkcaaDoorHCheck
import Derived.Test.YtgiihjcpgjpkcaaDoorHSane
namespace Go.Proofs.YtgiihjcpgjpkcaaDoor.Q
open Go.RowKit Go.Proofs.YtgiihjcpgjpkcaaDoorW.PrintWords Go.Proofs.YtgiihjcpgjpkcaaDoorW.PrintLast Go.Proofs.YtgiihjcpgjpkcaaDoorW.PrintMore
attribute [local go_sem] max2_int min2_int max_two min_two max_three min_three max_four min_four   -- for this text's walks alone
set_option linter.unusedVariables false
set_option linter.unusedSimpArgs false

/-! ### waterhourlaw04_RefillClosed: function 6 -/
def waterhourlaw04_RefillClosed.j0 : Nat → List (S51) → List Int → Bool → Option (Bool)
 | 0, _, _, _ => none
 | k + 1, x0, x1, x20 => if x20 = true then (some true) else ((refill_Closed.f k x0).bind fun bt401 => (if bt401.2 = 0 then ((refill_Closed.f k bt401.1).bind fun bt406 => (if bt406.2 = 0 then ((waterhourref04_Valid.f k bt401.1).bind fun t410 => (if t410 = true then ((waterhourref04_Same.f k bt401.1 bt406.1).bind fun t411 => (if t411 = true then ((refill_CheckTimes.f bt401.1 x1).bind fun t412 => ((refill_CheckTimes.f x0 x1).bind fun t413 => (some (t412 == t413)))) else (some false))) else (some false))) else (some false))) else (if bt401.2 = 31 then (if (bt401.1.length : Int) = 0 then ((refill_CheckTimes.f x0 x1).bind fun t405 => (some (t405 != 0))) else (some false)) else (some false))))
def waterhourlaw04_RefillClosed.f (k : Nat) (l0 : List (S51)) (l1 : List Int) : Option (Bool) := (law_sane.f).bind fun t395 => (if t395 = true then ((waterhourref04_Valid.f k l0).bind fun t396 => (if t396 = true then ((waterhourlaw04_few.f k l0 (([l1] : List (List Int)))).bind fun t400 => (waterhourlaw04_RefillClosed.j0 k l0 l1 (!t400))) else (waterhourlaw04_RefillClosed.j0 k l0 l1 true))) else (some false))
theorem waterhourlaw04_RefillClosed.mono_l : ∀ k, (∀ y0 y1 y2, LeO (waterhourlaw04_RefillClosed.j0 k y0 y1 y2) (waterhourlaw04_RefillClosed.j0 (k + 1) y0 y1 y2))
 | 0 => fun _ _ _ r h => by simp [waterhourlaw04_RefillClosed.j0] at h
 | k + 1 => by
  have ih0 := waterhourlaw04_RefillClosed.mono_l k
  ·intro y0 y1 y2
   unfold waterhourlaw04_RefillClosed.j0
   repeat' first
   | (with_reducible exact ih0 _ _ _)
   | (with_reducible exact refill_Closed.mono _ _)
   | (with_reducible exact waterhourlaw04_few.mono _ _ _)
   | (with_reducible exact waterhourref04_Same.mono _ _ _)
   | (with_reducible exact waterhourref04_Valid.mono _ _)
   | (with_reducible exact LeO.refl _)
   | (with_reducible exact LeO.none _)
   | (with_reducible refine LeO.ite ?_ ?_)
   | (with_reducible refine LeO.bind ?_ (fun _ => ?_))
   | exact ih0 _ _ _
   | exact refill_Closed.mono _ _
   | exact waterhourlaw04_few.mono _ _ _
   | exact waterhourref04_Same.mono _ _ _
   | exact waterhourref04_Valid.mono _ _
   | exact LeO.none _
   | refine LeO.ite ?_ ?_
   | refine LeO.bind ?_ (fun _ => ?_)
theorem waterhourlaw04_RefillClosed.mono : ∀ a0 a1 k, LeO (waterhourlaw04_RefillClosed.f k a0 a1) (waterhourlaw04_RefillClosed.f (k + 1) a0 a1) := by
 intro a0 a1 k
 have ih0 := waterhourlaw04_RefillClosed.mono_l k
 unfold waterhourlaw04_RefillClosed.f
 repeat' first
   | (with_reducible exact ih0 _ _ _)
   | (with_reducible exact refill_Closed.mono _ _)
   | (with_reducible exact waterhourlaw04_few.mono _ _ _)
   | (with_reducible exact waterhourref04_Same.mono _ _ _)
   | (with_reducible exact waterhourref04_Valid.mono _ _)
   | (with_reducible exact LeO.refl _)
   | (with_reducible exact LeO.none _)
   | (with_reducible refine LeO.ite ?_ ?_)
   | (with_reducible refine LeO.bind ?_ (fun _ => ?_))
   | exact ih0 _ _ _
   | exact refill_Closed.mono _ _
   | exact waterhourlaw04_few.mono _ _ _
   | exact waterhourref04_Same.mono _ _ _
   | exact waterhourref04_Valid.mono _ _
   | exact LeO.none _
   | refine LeO.ite ?_ ?_
   | refine LeO.bind ?_ (fun _ => ?_)
set_option maxHeartbeats 8000000 in
set_option maxRecDepth 100000 in
theorem waterhourlaw04_RefillClosed.calls (k : Nat) (A0 : Option Addr) (c0 : Nat) (l0 : List (S51)) (P1_ : Nat → Prop) (A1 : Option Addr) (c1 : Nat) (l1 : List Int) (r : Bool) (w : World) (hr0 : Kd.C k51 w A0 l0.length l0) (hc0 : l0.length ≤ c0) (hs1 : Kd.V (Kd.int .i64) 3 w w.heap.size (fun k_ => P1_ k_) (.slice A1 l1.length c1) l1) (ht : TabB w) (hrt : Aside0 (r = true)) (h : waterhourlaw04_RefillClosed.f k l0 l1 = some r) :
  Calls Tryd.prog 6 #[.slice A0 l0.length c0, .slice A1 l1.length c1] w fun e w' => e = .returned (.bool r) ∧ Below w.heap.size w w' := by
 have HR0 := a_ hr0
 have HC0 := a_ hc0
 clear hr0 hc0
 have HO1 := a_ (show Kd.V (Kd.int .i64) 3 w w.heap.size (fun k_ => (P1_ k_ ∨ w.heap.size ≤ k_)) (.slice A1 l1.length c1) l1 from Kd.V_mono hs1 (fun k_ hk => .inl hk))
 have HT := a_ ht
 clear ht
 have HB := a_ (Below.refl w.heap.size w)
 have H : ((law_sane.f).bind fun t395 => (if t395 = true then ((waterhourref04_Valid.f k l0).bind fun t396 => (if t396 = true then ((waterhourlaw04_few.f k l0 (([l1] : List (List Int)))).bind fun t400 => (waterhourlaw04_RefillClosed.j0 k l0 l1 (!t400))) else (waterhourlaw04_RefillClosed.j0 k l0 l1 true))) else (some false))) = some r := h
 clear h
 replace H := Option.bind_eq_some_iff.mp H
 obtain ⟨t395, A30, H⟩ := H
 replace H : (if t395 = true then ((waterhourref04_Valid.f k l0).bind fun t396 => (if t396 = true then ((waterhourlaw04_few.f k l0 (([l1] : List (List Int)))).bind fun t400 => (waterhourlaw04_RefillClosed.j0 k l0 l1 (!t400))) else (waterhourlaw04_RefillClosed.j0 k l0 l1 true))) else (some false)) = some r := H
 have A3 := a_ A30
 clear A30
 by_cases c4 : t395 = true
 ·subst c4
  have H1 : ((waterhourref04_Valid.f k l0).bind fun t396 => (if t396 = true then ((waterhourlaw04_few.f k l0 (([l1] : List (List Int)))).bind fun t400 => (waterhourlaw04_RefillClosed.j0 k l0 l1 (!t400))) else (waterhourlaw04_RefillClosed.j0 k l0 l1 true))) = some r := by rw [if_pos rfl] at H; exact H
  clear H
  have H := H1
  clear H1
  have HC5 := a_ H
  clear H
  go_enter Tryd.func6, Tryd.ntmps6
  go_upto_region 3 with (first | ((with_reducible refine gate_callee (f := 18) rfl ?_); refine goesL_ (some 9) rfl rfl Tryd.func18 (by kernel_rfl) rfl #[] rfl tm_ ?_; (with_reducible refine (law_sane.calls  true _ ?side1 A3.out).mono ?_); (case side1 => exact TabB.below HT.out bl_); rintro e w6 ⟨rfl, hb⟩; refine ⟨_, rfl, ?_⟩; have n0_ := a_ (Kd.V_below (vl_ HO1.out) hb); have n1_ := a_ (below_step bl_ hb); clear HO1; clear HB; have HO1 := n0_; have HB := n1_; clear n0_ n1_; (try clear hb); (try clear hb2); (try clear hk); (try clear hi)))
  (try simp only [Act.put, List.setIfInBounds_toArray, List.set_cons_zero, List.set_cons_succ])
  go_cut [20] (fun v20 wc => ∃ (kq : Nat) (x20_4 : Bool), v20 = .bool x20_4 ∧ Aside0 (waterhourlaw04_RefillClosed.j0 kq l0 l1 x20_4 = some r) ∧ Aside0 (kq ≤ k) ∧ Aside0 (Kd.V (Kd.int .i64) 3 wc w.heap.size (fun k_ => (P1_ k_ ∨ w.heap.size ≤ k_)) (.slice A1 l1.length c1) l1) ∧ Aside0 (Below w.heap.size w wc))
  case first =>
   have H := HC5.out
   clear HC5
   replace H := Option.bind_eq_some_iff.mp H
   obtain ⟨t396, A70, H⟩ := H
   replace H : (if t396 = true then ((waterhourlaw04_few.f k l0 (([l1] : List (List Int)))).bind fun t400 => (waterhourlaw04_RefillClosed.j0 k l0 l1 (!t400))) else (waterhourlaw04_RefillClosed.j0 k l0 l1 true)) = some r := H
   have A7 := a_ A70
   clear A70
   by_cases c8 : t396 = true
   ·subst c8
    have H1 : ((waterhourlaw04_few.f k l0 (([l1] : List (List Int)))).bind fun t400 => (waterhourlaw04_RefillClosed.j0 k l0 l1 (!t400))) = some r := by rw [if_pos rfl] at H; exact H
    clear H
    have H := H1
    clear H1
    obtain ⟨y397, hy397⟩ : ∃ y_ : List (List Int), y_ = (([l1] : List (List Int))) := ⟨_, rfl⟩
    replace H : ((waterhourlaw04_few.f k l0 y397).bind fun t400 => (waterhourlaw04_RefillClosed.j0 k l0 l1 (!t400))) = some r := by first | (rw [hy397]; with_reducible exact H) | (have H2_ := (Option.bind_some _ _).symm.trans H; rw [hy397]; with_reducible exact H2_) | (have H2_ := (Option.bind_some _ _).symm.trans H; with_reducible exact H2_) | with_reducible exact H | (rw [hy397]; exact H) | exact H
    have Ny397 := a_ hy397
    clear hy397
    replace H := Option.bind_eq_some_iff.mp H
    obtain ⟨t400, A90, H⟩ := H
    replace H : (waterhourlaw04_RefillClosed.j0 k l0 l1 (!t400)) = some r := H
    have A9 := a_ A90
    clear A90
    have H' := a_ H
    clear H
    go_wp2_with (first | ((with_reducible refine gate_callee (f := 31) rfl ?_); refine goesL_ (some 12) rfl rfl Tryd.func31 (by kernel_rfl) rfl #[.slice A0 l0.length c0] rfl tm_ ?_; (with_reducible refine (waterhourref04_Valid.calls k _ _ l0 true _ ?side1 ?side2 A7.out).mono ?_); (case side1 => exact cl_ (Kd.C_below HR0.out HB.out)); (case side2 => exact HC0.out); rintro e w10 ⟨rfl, hb⟩; refine ⟨_, rfl, ?_⟩; have n0_ := a_ (Kd.V_below (vl_ HO1.out) hb); have n1_ := a_ (below_step bl_ hb); clear HO1; clear HB; have HO1 := n0_; have HB := n1_; clear n0_ n1_; (try clear hb); (try clear hb2); (try clear hk); (try clear hi)) | ((with_reducible refine gate_dst (N := 17) rfl ?_); (try (refine gate_guard (by rfl) ?_; dsimp only)); refine Kd.N_lit (Kd.slice 3 (Kd.int .i64)) _ 26 ?hg (N' := 17) ?hd (xs := ([l1] : List (List Int))) (inner := [.slice A1 l1.length c1]) (ok := (fun k_ => (P1_ k_ ∨ w.heap.size ≤ k_))) (okp := (fun k_ => (P1_ k_ ∨ w.heap.size ≤ k_))) ?hr ?hp (fun _ hk => hk) ((show ∀ k_, w10.heap.size ≤ k_ → (fun k_ => (P1_ k_ ∨ w.heap.size ≤ k_)) k_ from fun k_ hk => (.inr (Nat.le_trans (below_size bl_) hk))) _ (Nat.le_refl _)) (Below.refl _ _) (Nat.le_refl _) (by simp) ?_; (case hd => rfl); (case hg => rfl); (case hr => first | (go_simp; done) | (go_simp; rfl)); (case hp => exact (Reps.one (show Kd.FK (Kd.slice 3 (Kd.int .i64)) _ _ l1 [.slice A1 l1.length c1] from (Kd.FK_slice_mk (Kd.V_reads' (Kd.V_mono (ok' := (fun k_ => (P1_ k_ ∨ w.heap.size ≤ k_))) (HO1.out) (fun k_ hk => hk))).2.1 (Kd.V_F (Kd.V_mono (ok' := (fun k_ => (P1_ k_ ∨ w.heap.size ≤ k_))) (HO1.out) (fun k_ hk => hk))))) (Reps.none _ _))); intro v398 w11 ho12 hb hg_ hnew_; clear hg_ hnew_; (first | rw [← Ny397.out] at ho12 | (simp only [Int.reduceToNat] at ho12; rw [← Ny397.out] at ho12)); have n0_ := a_ (Kd.V_elder' (vl_ HO1.out) (Kd.N_base ho12) hb); have n1_ := a_ (Kd.N_lower ho12 (below_size bl_)); have n2_ := a_ (below_step bl_ hb); clear HO1; clear HB; have HO1 := n0_; have HO399 := n1_; have HB := n2_; clear n0_ n1_ n2_; clear hb ho12; obtain ⟨Ao13, co13, eo13⟩ := Kd.N_slice HO399.out; subst eo13) | (go_at_call 19; (with_reducible refine (waterhourlaw04_few.calls k _ _ l0 _ _ y397 t400 _ ?side1 ?side2 ?side3 ?side4 A9.out).mono ?_); (case side1 => exact cl_ (Kd.C_below HR0.out HB.out)); (case side2 => exact HC0.out); (case side3 => exact cl_ ((Kd.N_reads' HO399.out).2.2)); (case side4 => exact (Kd.N_reads' HO399.out).2.1); rintro e w' ⟨rfl, ⟨nd, rfl⟩⟩))
    go_meet
    case rel => exact ⟨_, (!t400), (by first | rfl | (simp; done) | (simp [*]; done)), H', ⟨by first | omega | exact Nat.le_refl _⟩, ⟨vl_ (Kd.V_mono HO1.out (fun _ hk => hk.1))⟩, ⟨bl_⟩⟩
   ·replace c8 := Bool.eq_false_iff.mpr c8
    subst c8
    have H1 : (waterhourlaw04_RefillClosed.j0 k l0 l1 true) = some r := by rw [if_neg (show ¬ (false = true) by decide)] at H; exact H
    clear H
    have H := H1
    clear H1
    have H' := a_ H
    clear H
    go_wp2_with (first | ((with_reducible refine gate_callee (f := 31) rfl ?_); refine goesL_ (some 12) rfl rfl Tryd.func31 (by kernel_rfl) rfl #[.slice A0 l0.length c0] rfl tm_ ?_; (with_reducible refine (waterhourref04_Valid.calls k _ _ l0 false _ ?side1 ?side2 A7.out).mono ?_); (case side1 => exact cl_ (Kd.C_below HR0.out HB.out)); (case side2 => exact HC0.out); rintro e w14 ⟨rfl, hb⟩; refine ⟨_, rfl, ?_⟩; have n0_ := a_ (Kd.V_below (vl_ HO1.out) hb); have n1_ := a_ (below_step bl_ hb); clear HO1; clear HB; have HO1 := n0_; have HB := n1_; clear n0_ n1_; (try clear hb); (try clear hb2); (try clear hk); (try clear hi)))
    go_meet
    case rel => exact ⟨_, (true), (by first | rfl | (simp; done) | (simp [*]; done)), H', ⟨by first | omega | exact Nat.le_refl _⟩, ⟨vl_ HO1.out⟩, ⟨bl_⟩⟩
  case rest =>
   clear HC5
   try clear c1
   try clear p2
   try clear c3
   try clear c4
   try clear c6
   try clear c8
   obtain ⟨kq, x20_4, rfl, HA, HJ4, HO_1, HB⟩ := hcut
   cases kq with
   | zero => exact absurd HA.out (by simp [waterhourlaw04_RefillClosed.j0])
   | succ kj4 =>
    have H := HA.out
    clear HA
    simp only [waterhourlaw04_RefillClosed.j0] at H
    by_cases c15 : x20_4 = true
    ·subst c15
     have H1 : (some true) = some r := by rw [if_pos rfl] at H; exact H
     clear H
     have H := H1
     clear H1
     obtain rfl := Option.some.inj H
     go_wp2
     go_ret
     exact ⟨by first | rfl | (simp [errW_none, errW_some] <;> rfl) | (simp [*, errW_none, errW_some] <;> rfl), bl_⟩
    ·replace c15 := Bool.eq_false_iff.mpr c15
     subst c15
     have H1 : ((refill_Closed.f kj4 l0).bind fun bt401 => (if bt401.2 = 0 then ((refill_Closed.f kj4 bt401.1).bind fun bt406 => (if bt406.2 = 0 then ((waterhourref04_Valid.f kj4 bt401.1).bind fun t410 => (if t410 = true then ((waterhourref04_Same.f kj4 bt401.1 bt406.1).bind fun t411 => (if t411 = true then ((refill_CheckTimes.f bt401.1 l1).bind fun t412 => ((refill_CheckTimes.f l0 l1).bind fun t413 => (some (t412 == t413)))) else (some false))) else (some false))) else (some false))) else (if bt401.2 = 31 then (if (bt401.1.length : Int) = 0 then ((refill_CheckTimes.f l0 l1).bind fun t405 => (some (t405 != 0))) else (some false)) else (some false)))) = some r := by rw [if_neg (show ¬ (false = true) by decide)] at H; exact H
     clear H
     have H := H1
     clear H1
     replace H := Option.bind_eq_some_iff.mp H
     obtain ⟨⟨t401, t402⟩, A160, H⟩ := H
     replace H : (if t402 = 0 then ((refill_Closed.f kj4 t401).bind fun bt406 => (if bt406.2 = 0 then ((waterhourref04_Valid.f kj4 t401).bind fun t410 => (if t410 = true then ((waterhourref04_Same.f kj4 t401 bt406.1).bind fun t411 => (if t411 = true then ((refill_CheckTimes.f t401 l1).bind fun t412 => ((refill_CheckTimes.f l0 l1).bind fun t413 => (some (t412 == t413)))) else (some false))) else (some false))) else (some false))) else (if t402 = 31 then (if (t401.length : Int) = 0 then ((refill_CheckTimes.f l0 l1).bind fun t405 => (some (t405 != 0))) else (some false)) else (some false))) = some r := H
     have A16 := a_ A160
     clear A160
     by_cases c17 : t402 = 0
     ·rw [if_pos c17] at H
      have c17b0 : (t402 == 0) = true := beq_iff_eq.mpr c17
      have c17b1 : (t402 != 0) = false := bne_eq_false_iff_eq.mpr c17
      clear c17
      replace H := Option.bind_eq_some_iff.mp H
      obtain ⟨⟨t406, t407⟩, A180, H⟩ := H
      replace H : (if t407 = 0 then ((waterhourref04_Valid.f kj4 t401).bind fun t410 => (if t410 = true then ((waterhourref04_Same.f kj4 t401 t406).bind fun t411 => (if t411 = true then ((refill_CheckTimes.f t401 l1).bind fun t412 => ((refill_CheckTimes.f l0 l1).bind fun t413 => (some (t412 == t413)))) else (some false))) else (some false))) else (some false)) = some r := H
      have A18 := a_ A180
      clear A180
      by_cases c19 : t407 = 0
      ·rw [if_pos c19] at H
       have c19b0 : (t407 == 0) = true := beq_iff_eq.mpr c19
       have c19b1 : (t407 != 0) = false := bne_eq_false_iff_eq.mpr c19
       clear c19
       replace H := Option.bind_eq_some_iff.mp H
       obtain ⟨t410, A200, H⟩ := H
       replace H : (if t410 = true then ((waterhourref04_Same.f kj4 t401 t406).bind fun t411 => (if t411 = true then ((refill_CheckTimes.f t401 l1).bind fun t412 => ((refill_CheckTimes.f l0 l1).bind fun t413 => (some (t412 == t413)))) else (some false))) else (some false)) = some r := H
       have A20 := a_ A200
       clear A200
       by_cases c21 : t410 = true
       ·subst c21
        have H1 : ((waterhourref04_Same.f kj4 t401 t406).bind fun t411 => (if t411 = true then ((refill_CheckTimes.f t401 l1).bind fun t412 => ((refill_CheckTimes.f l0 l1).bind fun t413 => (some (t412 == t413)))) else (some false))) = some r := by rw [if_pos rfl] at H; exact H
        clear H
        have H := H1
        clear H1
        replace H := Option.bind_eq_some_iff.mp H
        obtain ⟨t411, A220, H⟩ := H
        replace H : (if t411 = true then ((refill_CheckTimes.f t401 l1).bind fun t412 => ((refill_CheckTimes.f l0 l1).bind fun t413 => (some (t412 == t413)))) else (some false)) = some r := H
        have A22 := a_ A220
        clear A220
        by_cases c23 : t411 = true
        ·subst c23
         have H1 : ((refill_CheckTimes.f t401 l1).bind fun t412 => ((refill_CheckTimes.f l0 l1).bind fun t413 => (some (t412 == t413)))) = some r := by rw [if_pos rfl] at H; exact H
         clear H
         have H := H1
         clear H1
         replace H := Option.bind_eq_some_iff.mp H
         obtain ⟨t412, A240, H⟩ := H
         replace H : ((refill_CheckTimes.f l0 l1).bind fun t413 => (some (t412 == t413))) = some r := H
         have A24 := a_ A240
         clear A240
         replace H := Option.bind_eq_some_iff.mp H
         obtain ⟨t413, A250, H⟩ := H
         replace H : (some (t412 == t413)) = some r := H
         have A25 := a_ A250
         clear A250
         obtain rfl := Option.some.inj H
         go_wp2_with (first | ((with_reducible refine gate_callee (f := 32) rfl ?_); refine goesL_ (some 23) rfl rfl Tryd.func32 (by kernel_rfl) rfl #[.slice A0 l0.length c0] rfl tm_ ?_; (with_reducible refine (refill_Closed.calls kj4 _ _ l0 t401 t402 _ ?side1 ?side2 A16.out).mono ?_); (case side1 => exact cl_ (Kd.C_below HR0.out HB.out)); (case side2 => exact HC0.out); rintro e w26 ⟨v403, rfl, ho0, hb⟩; refine ⟨_, rfl, ?_⟩; have n0_ := a_ (Kd.V_elder' (vl_ HO_1.out) (Kd.R_base ho0) hb); have n1_ := a_ (Kd.R_lower (Kd.R_newM (M := fun k_ => (w.heap.size ≤ k_)) ho0 (below_size bl_) (fun k_ h_ => h_)) (below_size bl_)); have n2_ := a_ (below_step bl_ hb); clear HO_1; clear HB; have HO_1 := n0_; have HO404 := n1_; have HB := n2_; clear n0_ n1_ n2_; (try clear hb); (try clear hb2); (try clear hk); (try clear hi); (try clear ho0); obtain ⟨Ao27, co27, eo27⟩ := Kd.R_slice HO404.out; subst eo27) | ((with_reducible refine gate_callee (f := 32) rfl ?_); refine goesL_ (some 43) rfl rfl Tryd.func32 (by kernel_rfl) rfl #[.slice Ao27 t401.length co27] rfl tm_ ?_; (with_reducible refine (refill_Closed.calls kj4 _ _ t401 t406 t407 _ ?side1 ?side2 A18.out).mono ?_); (case side1 => exact cl_ ((Kd.R_reads' HO404.out).2.2)); (case side2 => exact (Kd.R_reads' HO404.out).2.1); rintro e w28 ⟨v408, rfl, ho0, hb⟩; refine ⟨_, rfl, ?_⟩; have n0_ := a_ (Kd.V_elder' (vl_ HO_1.out) (Kd.R_base ho0) hb); have n1_ := a_ (Kd.R_elder' (rl_ HO404.out) (Kd.R_base ho0) hb); have n2_ := a_ (Kd.R_lower (Kd.R_new' (Kd.R_newM (M := fun k_ => (w.heap.size ≤ k_)) ho0 (below_size bl_) (fun k_ h_ => h_)) (Kd.R_lt (rl_ HO404.out))) (below_size bl_)); have n3_ := a_ (below_step bl_ hb); clear HO_1; clear HO404; clear HB; have HO_1 := n0_; have HO404 := n1_; have HO409 := n2_; have HB := n3_; clear n0_ n1_ n2_ n3_; (try clear hb); (try clear hb2); (try clear hk); (try clear hi); (try clear ho0)) | (go_at_call 31; (with_reducible refine (waterhourref04_Valid.calls kj4 _ _ t401 true _ ?side1 ?side2 A20.out).mono ?_); (case side1 => exact cl_ ((Kd.R_reads' HO404.out).2.2)); (case side2 => exact (Kd.R_reads' HO404.out).2.1); rintro e w29 ⟨rfl, hb⟩; have n0_ := a_ (Kd.V_below (vl_ HO_1.out) hb); have n1_ := a_ (Kd.R_below (rl_ HO404.out) hb); have n2_ := a_ (Kd.R_below (rl_ HO409.out) hb); have n3_ := a_ (below_step bl_ hb); clear HO_1; clear HO404; clear HO409; clear HB; have HO_1 := n0_; have HO404 := n1_; have HO409 := n2_; have HB := n3_; clear n0_ n1_ n2_ n3_; (try clear hb); (try clear hb2); (try clear hk); (try clear hi); obtain ⟨Ao30, co30, eo30⟩ := Kd.R_slice HO409.out; subst eo30) | (go_at_call 34; (with_reducible refine (waterhourref04_Same.calls kj4 _ _ t401 _ _ t406 true _ ?side1 ?side2 ?side3 ?side4 A22.out).mono ?_); (case side1 => exact cl_ ((Kd.R_reads' HO404.out).2.2)); (case side2 => exact (Kd.R_reads' HO404.out).2.1); (case side3 => exact cl_ ((Kd.R_reads' HO409.out).2.2)); (case side4 => exact (Kd.R_reads' HO409.out).2.1); rintro e w' ⟨rfl, ⟨nd, rfl⟩⟩) | (go_at_call 33; (with_reducible refine (refill_CheckTimes.calls _ _ t401 _ _ l1 t412 _ ?side1 ?side2 ?side3 ?side4 A24.out).mono ?_); (case side1 => exact cl_ ((Kd.R_reads' HO404.out).2.2)); (case side2 => exact (Kd.R_reads' HO404.out).2.1); (case side3 => exact cl_ ((Kd.V_reads' HO_1.out).2.2)); (case side4 => exact (Kd.V_reads' HO_1.out).2.1); rintro e w31 ⟨rfl, hb⟩; have n0_ := a_ (Kd.V_below (vl_ HO_1.out) hb); have n1_ := a_ (Kd.R_below (rl_ HO404.out) hb); have n2_ := a_ (Kd.R_below (rl_ HO409.out) hb); have n3_ := a_ (below_step bl_ hb); clear HO_1; clear HO404; clear HO409; clear HB; have HO_1 := n0_; have HO404 := n1_; have HO409 := n2_; have HB := n3_; clear n0_ n1_ n2_ n3_; (try clear hb); (try clear hb2); (try clear hk); (try clear hi)) | (go_at_call 33; (with_reducible refine (refill_CheckTimes.calls _ _ l0 _ _ l1 t413 _ ?side1 ?side2 ?side3 ?side4 A25.out).mono ?_); (case side1 => exact cl_ (Kd.C_below HR0.out HB.out)); (case side2 => exact HC0.out); (case side3 => exact cl_ ((Kd.V_reads' HO_1.out).2.2)); (case side4 => exact (Kd.V_reads' HO_1.out).2.1); rintro e w32 ⟨rfl, hb⟩; have n0_ := a_ (Kd.V_below (vl_ HO_1.out) hb); have n1_ := a_ (Kd.R_below (rl_ HO404.out) hb); have n2_ := a_ (Kd.R_below (rl_ HO409.out) hb); have n3_ := a_ (below_step bl_ hb); clear HO_1; clear HO404; clear HO409; clear HB; have HO_1 := n0_; have HO404 := n1_; have HO409 := n2_; have HB := n3_; clear n0_ n1_ n2_ n3_; (try clear hb); (try clear hb2); (try clear hk); (try clear hi)))
         go_ret
         exact ⟨by first | rfl | (simp [errW_none, errW_some] <;> rfl) | (simp [*, errW_none, errW_some] <;> rfl), bl_⟩
        ·replace c23 := Bool.eq_false_iff.mpr c23
         subst c23
         have H1 : (some false) = some r := by rw [if_neg (show ¬ (false = true) by decide)] at H; exact H
         clear H
         have H := H1
         clear H1
         exact absurd (H.trans (congrArg some hrt.out)) (by simp)
       ·replace c21 := Bool.eq_false_iff.mpr c21
        subst c21
        have H1 : (some false) = some r := by rw [if_neg (show ¬ (false = true) by decide)] at H; exact H
        clear H
        have H := H1
        clear H1
        exact absurd (H.trans (congrArg some hrt.out)) (by simp)
      ·rw [if_neg c19] at H
       have c19b0 : (t407 == 0) = false := beq_eq_false_iff_ne.mpr c19
       have c19b1 : (t407 != 0) = true := bne_iff_ne.mpr c19
       exact absurd (H.trans (congrArg some hrt.out)) (by simp)
     ·rw [if_neg c17] at H
      have c17b0 : (t402 == 0) = false := beq_eq_false_iff_ne.mpr c17
      have c17b1 : (t402 != 0) = true := bne_iff_ne.mpr c17
      by_cases c33 : t402 = 31
      ·rw [if_pos c33] at H
       have c33b0 : (t402 == 31) = true := beq_iff_eq.mpr c33
       have c33b1 : (t402 != 31) = false := bne_eq_false_iff_eq.mpr c33
       clear c33
       by_cases c34 : (t401.length : Int) = 0
       ·rw [if_pos c34] at H
        have c34b0 : ((t401.length : Int) == 0) = true := beq_iff_eq.mpr c34
        have c34b1 : ((t401.length : Int) != 0) = false := bne_eq_false_iff_eq.mpr c34
        clear c34
        replace H := Option.bind_eq_some_iff.mp H
        obtain ⟨t405, A350, H⟩ := H
        replace H : (some (t405 != 0)) = some r := H
        have A35 := a_ A350
        clear A350
        obtain rfl := Option.some.inj H
        go_wp2_with (first | ((with_reducible refine gate_callee (f := 32) rfl ?_); refine goesL_ (some 23) rfl rfl Tryd.func32 (by kernel_rfl) rfl #[.slice A0 l0.length c0] rfl tm_ ?_; (with_reducible refine (refill_Closed.calls kj4 _ _ l0 t401 t402 _ ?side1 ?side2 A16.out).mono ?_); (case side1 => exact cl_ (Kd.C_below HR0.out HB.out)); (case side2 => exact HC0.out); rintro e w36 ⟨v403, rfl, ho0, hb⟩; refine ⟨_, rfl, ?_⟩; have n0_ := a_ (Kd.V_elder' (vl_ HO_1.out) (Kd.R_base ho0) hb); have n1_ := a_ (Kd.R_lower (Kd.R_newM (M := fun k_ => (w.heap.size ≤ k_)) ho0 (below_size bl_) (fun k_ h_ => h_)) (below_size bl_)); have n2_ := a_ (below_step bl_ hb); clear HO_1; clear HB; have HO_1 := n0_; have HO404 := n1_; have HB := n2_; clear n0_ n1_ n2_; (try clear hb); (try clear hb2); (try clear hk); (try clear hi); (try clear ho0); obtain ⟨Ao37, co37, eo37⟩ := Kd.R_slice HO404.out; subst eo37) | (go_at_call 33; (with_reducible refine (refill_CheckTimes.calls _ _ l0 _ _ l1 t405 _ ?side1 ?side2 ?side3 ?side4 A35.out).mono ?_); (case side1 => exact cl_ (Kd.C_below HR0.out HB.out)); (case side2 => exact HC0.out); (case side3 => exact cl_ ((Kd.V_reads' HO_1.out).2.2)); (case side4 => exact (Kd.V_reads' HO_1.out).2.1); rintro e w38 ⟨rfl, hb⟩; have n0_ := a_ (Kd.V_below (vl_ HO_1.out) hb); have n1_ := a_ (Kd.R_below (rl_ HO404.out) hb); have n2_ := a_ (below_step bl_ hb); clear HO_1; clear HO404; clear HB; have HO_1 := n0_; have HO404 := n1_; have HB := n2_; clear n0_ n1_ n2_; (try clear hb); (try clear hb2); (try clear hk); (try clear hi)))
        go_ret
        exact ⟨by first | rfl | (simp [errW_none, errW_some] <;> rfl) | (simp [*, errW_none, errW_some] <;> rfl), bl_⟩
       ·rw [if_neg c34] at H
        have c34b0 : ((t401.length : Int) == 0) = false := beq_eq_false_iff_ne.mpr c34
        have c34b1 : ((t401.length : Int) != 0) = true := bne_iff_ne.mpr c34
        have c34b2 : ¬ (t401 = []) := fun h_ => c34 (by rw [h_]; rfl)
        exact absurd (H.trans (congrArg some hrt.out)) (by simp)
      ·rw [if_neg c33] at H
       have c33b0 : (t402 == 31) = false := beq_eq_false_iff_ne.mpr c33
       have c33b1 : (t402 != 31) = true := bne_iff_ne.mpr c33
       exact absurd (H.trans (congrArg some hrt.out)) (by simp)
 ·replace c4 := Bool.eq_false_iff.mpr c4
  subst c4
  have H1 : (some false) = some r := by rw [if_neg (show ¬ (false = true) by decide)] at H; exact H
  clear H
  have H := H1
  clear H1
  exact absurd (H.trans (congrArg some hrt.out)) (by simp)

end Go.Proofs.YtgiihjcpgjpkcaaDoor.Q
