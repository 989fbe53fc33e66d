/- Contracts of functions of the given program: each Go function as a plain Lean function (name.f) and the proof that its call answers just so, for every reading of its arguments. Written by the session's program wip/xprint.py out of the translation. -/
import Derived.Test.YtgiihjcpgjpkcaaGreatDoorQ0
import Derived.Test.YtgiihjcpgjpkcaaGreatDoorQA
import Derived.Test.YtgiihjcpgjpkcaaGreatDoorQB
import Derived.Test.YtgiihjcpgjpkcaaGreatDoorHClash
import Derived.Test.YtgiihjcpgjpkcaaGreatDoorHTime
namespace Go.Proofs.YtgiihjcpgjpkcaaGreatDoor.Q
open Go.RowKit Go.Proofs.YtgiihjcpgjpkcaaGreatDoorW.PrintWords Go.Proofs.YtgiihjcpgjpkcaaGreatDoorW.PrintLast Go.Proofs.YtgiihjcpgjpkcaaGreatDoorW.PrintMore
attribute [local go_sem] max2_int min2_int max_two min_two max_three min_three max_four min_four   -- for this text's walks alone
set_option linter.unusedVariables false
set_option linter.unusedSimpArgs false

/-! ### refill_possible: function 41 -/
def refill_possible.f (l0 : List (S37)) : Option (Bool) := (refill_clash.f l0).bind fun bt163 => (some (!bt163.2.2))
set_option maxHeartbeats 8000000 in
set_option maxRecDepth 100000 in
theorem refill_possible.calls (A0 : Option Addr) (c0 : Nat) (l0 : List (S37)) (r : Bool) (w : World) (hr0 : Kd.C k37 w A0 l0.length l0) (hc0 : l0.length ≤ c0) (h : refill_possible.f l0 = some r) :
  Calls Tryz.prog 41 #[.slice A0 l0.length c0] w fun e w' => e = .returned (.bool r) ∧ Below w.heap.size w w' := by
 have HR0 := a_ hr0
 have HC0 := a_ hc0
 clear hr0 hc0
 have HB := a_ (Below.refl w.heap.size w)
 have H : ((refill_clash.f l0).bind fun bt163 => (some (!bt163.2.2))) = some r := h
 clear h
 replace H := Option.bind_eq_some_iff.mp H
 obtain ⟨⟨t163, t164, t165⟩, A20, H⟩ := H
 replace H : (some (!t165)) = some r := H
 have A2 := a_ A20
 clear A20
 obtain rfl := Option.some.inj H
 go_enter Tryz.func41, Tryz.ntmps41
 go_wp2_with (first | ((with_reducible refine gate_callee (f := 43) rfl ?_); refine goesL_ (some 8) rfl rfl Tryz.func43 (by kernel_rfl) rfl #[.slice A0 l0.length c0] rfl tm_ ?_; (with_reducible refine (refill_clash.calls _ _ l0 t163 t164 t165 _ ?side1 ?side2 A2.out).mono ?_); (case side1 => exact cl_ HR0.out); (case side2 => exact HC0.out); rintro e w3 ⟨rfl, hb⟩; refine ⟨_, rfl, ?_⟩; have n0_ := a_ (below_step bl_ hb); clear HB; have HB := n0_; clear n0_; (try clear hb); (try clear hb2); (try clear hk); (try clear hi)))
 go_ret
 exact ⟨by first | rfl | (simp [errW_none, errW_some] <;> rfl) | (simp [*, errW_none, errW_some] <;> rfl), bl_⟩

/-! ### refill_ready: function 44 -/
def refill_ready.f (k : Nat) (l0 : List (S37)) (a1 : Int) (l2 : List Int) : Option (Int) := (refill_event.f k l0 a1 l2).bind fun t166 => (if t166 = 0 then ((refill_possible.f l0).bind fun t167 => (if t167 = true then (some 0) else (some 31))) else (some t166))
theorem refill_ready.mono : ∀ a0 a1 a2 k, LeO (refill_ready.f k a0 a1 a2) (refill_ready.f (k + 1) a0 a1 a2) := by
 intro a0 a1 a2 k
 unfold refill_ready.f
 repeat' first
   | (with_reducible exact refill_event.mono _ _ _ _)
   | (with_reducible exact LeO.refl _)
   | (with_reducible exact LeO.none _)
   | (with_reducible refine LeO.ite ?_ ?_)
   | (with_reducible refine LeO.bind ?_ (fun _ => ?_))
   | exact refill_event.mono _ _ _ _
   | exact LeO.none _
   | refine LeO.ite ?_ ?_
   | refine LeO.bind ?_ (fun _ => ?_)
set_option maxHeartbeats 8000000 in
set_option maxRecDepth 100000 in
theorem refill_ready.calls (k : Nat) (A0 : Option Addr) (c0 : Nat) (l0 : List (S37)) (a1 : Int) (A2 : Option Addr) (c2 : Nat) (l2 : List Int) (r : Int) (w : World) (hr0 : Kd.C k37 w A0 l0.length l0) (hc0 : l0.length ≤ c0) (hr2 : Kd.C (Kd.int .i64) w A2 l2.length l2) (hc2 : l2.length ≤ c2) (h : refill_ready.f k l0 a1 l2 = some r) :
  Calls Tryz.prog 44 #[.slice A0 l0.length c0, .int .i64 a1, .slice A2 l2.length c2] w fun e w' => e = .returned (.int .i64 r) ∧ Below w.heap.size w w' := by
 have HR0 := a_ hr0
 have HC0 := a_ hc0
 clear hr0 hc0
 have HR2 := a_ hr2
 have HC2 := a_ hc2
 clear hr2 hc2
 have HB := a_ (Below.refl w.heap.size w)
 have H : ((refill_event.f k l0 a1 l2).bind fun t166 => (if t166 = 0 then ((refill_possible.f l0).bind fun t167 => (if t167 = true then (some 0) else (some 31))) else (some t166))) = some r := h
 clear h
 replace H := Option.bind_eq_some_iff.mp H
 obtain ⟨t166, A40, H⟩ := H
 replace H : (if t166 = 0 then ((refill_possible.f l0).bind fun t167 => (if t167 = true then (some 0) else (some 31))) else (some t166)) = some r := H
 have A4 := a_ A40
 clear A40
 by_cases c5 : t166 = 0
 ·rw [if_pos c5] at H
  have c5b0 : (t166 == 0) = true := beq_iff_eq.mpr c5
  have c5b1 : (t166 != 0) = false := bne_eq_false_iff_eq.mpr c5
  clear c5
  replace H := Option.bind_eq_some_iff.mp H
  obtain ⟨t167, A60, H⟩ := H
  replace H : (if t167 = true then (some 0) else (some 31)) = some r := H
  have A6 := a_ A60
  clear A60
  by_cases c7 : t167 = true
  ·subst c7
   have H1 : (some 0) = some r := by rw [if_pos rfl] at H; exact H
   clear H
   have H := H1
   clear H1
   obtain rfl := Option.some.inj H
   go_enter Tryz.func44, Tryz.ntmps44
   go_wp2_with (first | ((with_reducible refine gate_callee (f := 40) rfl ?_); refine goesL_ (some 11) rfl rfl Tryz.func40 (by kernel_rfl) rfl #[.slice A0 l0.length c0, .int .i64 a1, .slice A2 l2.length c2] rfl tm_ ?_; (with_reducible refine (refill_event.calls k _ _ l0 a1 _ _ l2 t166 _ ?side1 ?side2 ?side3 ?side4 A4.out).mono ?_); (case side1 => exact cl_ HR0.out); (case side2 => exact HC0.out); (case side3 => exact cl_ HR2.out); (case side4 => exact HC2.out); rintro e w8 ⟨rfl, hb⟩; refine ⟨_, rfl, ?_⟩; have n0_ := a_ (below_step bl_ hb); clear HB; have HB := n0_; clear n0_; (try clear hb); (try clear hb2); (try clear hk); (try clear hi)) | ((with_reducible refine gate_callee (f := 41) rfl ?_); refine goesL_ (some 16) rfl rfl Tryz.func41 (by kernel_rfl) rfl #[.slice A0 l0.length c0] rfl tm_ ?_; (with_reducible refine (refill_possible.calls _ _ l0 true _ ?side1 ?side2 A6.out).mono ?_); (case side1 => exact cl_ (Kd.C_below HR0.out HB.out)); (case side2 => exact HC0.out); rintro e w9 ⟨rfl, hb⟩; refine ⟨_, rfl, ?_⟩; have n0_ := a_ (below_step bl_ hb); clear HB; have HB := n0_; clear n0_; (try clear hb); (try clear hb2); (try clear hk); (try clear hi)))
   go_ret
   exact ⟨by first | rfl | (simp [errW_none, errW_some] <;> rfl) | (simp [*, errW_none, errW_some] <;> rfl), bl_⟩
  ·replace c7 := Bool.eq_false_iff.mpr c7
   subst c7
   have H1 : (some 31) = some r := by rw [if_neg (show ¬ (false = true) by decide)] at H; exact H
   clear H
   have H := H1
   clear H1
   obtain rfl := Option.some.inj H
   go_enter Tryz.func44, Tryz.ntmps44
   go_wp2_with (first | ((with_reducible refine gate_callee (f := 40) rfl ?_); refine goesL_ (some 11) rfl rfl Tryz.func40 (by kernel_rfl) rfl #[.slice A0 l0.length c0, .int .i64 a1, .slice A2 l2.length c2] rfl tm_ ?_; (with_reducible refine (refill_event.calls k _ _ l0 a1 _ _ l2 t166 _ ?side1 ?side2 ?side3 ?side4 A4.out).mono ?_); (case side1 => exact cl_ HR0.out); (case side2 => exact HC0.out); (case side3 => exact cl_ HR2.out); (case side4 => exact HC2.out); rintro e w10 ⟨rfl, hb⟩; refine ⟨_, rfl, ?_⟩; have n0_ := a_ (below_step bl_ hb); clear HB; have HB := n0_; clear n0_; (try clear hb); (try clear hb2); (try clear hk); (try clear hi)) | ((with_reducible refine gate_callee (f := 41) rfl ?_); refine goesL_ (some 16) rfl rfl Tryz.func41 (by kernel_rfl) rfl #[.slice A0 l0.length c0] rfl tm_ ?_; (with_reducible refine (refill_possible.calls _ _ l0 false _ ?side1 ?side2 A6.out).mono ?_); (case side1 => exact cl_ (Kd.C_below HR0.out HB.out)); (case side2 => exact HC0.out); rintro e w11 ⟨rfl, hb⟩; refine ⟨_, rfl, ?_⟩; have n0_ := a_ (below_step bl_ hb); clear HB; have HB := n0_; clear n0_; (try clear hb); (try clear hb2); (try clear hk); (try clear hi)))
   go_ret
   exact ⟨by first | rfl | (simp [errW_none, errW_some] <;> rfl) | (simp [*, errW_none, errW_some] <;> rfl), bl_⟩
 ·rw [if_neg c5] at H
  have c5b0 : (t166 == 0) = false := beq_eq_false_iff_ne.mpr c5
  have c5b1 : (t166 != 0) = true := bne_iff_ne.mpr c5
  obtain rfl := Option.some.inj H
  go_enter Tryz.func44, Tryz.ntmps44
  go_wp2_with (first | ((with_reducible refine gate_callee (f := 40) rfl ?_); refine goesL_ (some 11) rfl rfl Tryz.func40 (by kernel_rfl) rfl #[.slice A0 l0.length c0, .int .i64 a1, .slice A2 l2.length c2] rfl tm_ ?_; (with_reducible refine (refill_event.calls k _ _ l0 a1 _ _ l2 t166 _ ?side1 ?side2 ?side3 ?side4 A4.out).mono ?_); (case side1 => exact cl_ HR0.out); (case side2 => exact HC0.out); (case side3 => exact cl_ HR2.out); (case side4 => exact HC2.out); rintro e w12 ⟨rfl, hb⟩; refine ⟨_, rfl, ?_⟩; have n0_ := a_ (below_step bl_ hb); clear HB; have HB := n0_; clear n0_; (try clear hb); (try clear hb2); (try clear hk); (try clear hi)))
  go_ret
  exact ⟨by first | rfl | (simp [errW_none, errW_some] <;> rfl) | (simp [*, errW_none, errW_some] <;> rfl), bl_⟩

/-! ### refill_between: function 42 -/
def refill_between.f (k : Nat) (l0 : List (S37)) (a1 : Int) (a2 : Int) : Option (Int × Int) := (refill_behind.f k l0 a1 a2).bind fun bt177 => ((refill_time.f l0 a2).bind fun bt179 => (if a1 ≥ 0 then ((refill_time.f l0 a1).bind fun bt184 => (some (mx bt177.1 (wrap64 (bt179.1 - bt184.2)), mn bt177.2 (wrap64 (bt179.2 - bt184.1))))) else (some (mx bt177.1 (wrap64 (bt179.1)), mn bt177.2 (wrap64 (bt179.2))))))
theorem refill_between.mono : ∀ a0 a1 a2 k, LeO (refill_between.f k a0 a1 a2) (refill_between.f (k + 1) a0 a1 a2) := by
 intro a0 a1 a2 k
 unfold refill_between.f
 repeat' first
   | (with_reducible exact refill_behind.mono _ _ _ _)
   | (with_reducible exact LeO.refl _)
   | (with_reducible exact LeO.none _)
   | (with_reducible refine LeO.ite ?_ ?_)
   | (with_reducible refine LeO.bind ?_ (fun _ => ?_))
   | exact refill_behind.mono _ _ _ _
   | exact LeO.none _
   | refine LeO.ite ?_ ?_
   | refine LeO.bind ?_ (fun _ => ?_)
set_option maxHeartbeats 8000000 in
set_option maxRecDepth 100000 in
theorem refill_between.calls (k : Nat) (A0 : Option Addr) (c0 : Nat) (l0 : List (S37)) (a1 : Int) (a2 : Int) (r1 : Int) (r2 : Int) (w : World) (hr0 : Kd.C k37 w A0 l0.length l0) (hc0 : l0.length ≤ c0) (h : refill_between.f k l0 a1 a2 = some (r1, r2)) :
  Calls Tryz.prog 42 #[.slice A0 l0.length c0, .int .i64 a1, .int .i64 a2] w fun e w' => e = .returned (.agg #[.int .i64 r1, .int .i64 r2]) ∧ Below w.heap.size w w' := by
 have hu35 := Tryz.underlying35
 have HR0 := a_ hr0
 have HC0 := a_ hc0
 clear hr0 hc0
 have HB := a_ (Below.refl w.heap.size w)
 have H : ((refill_behind.f k l0 a1 a2).bind fun bt177 => ((refill_time.f l0 a2).bind fun bt179 => (if a1 ≥ 0 then ((refill_time.f l0 a1).bind fun bt184 => (some (mx bt177.1 (wrap64 (bt179.1 - bt184.2)), mn bt177.2 (wrap64 (bt179.2 - bt184.1))))) else (some (mx bt177.1 (wrap64 (bt179.1)), mn bt177.2 (wrap64 (bt179.2))))))) = some (r1, r2) := h
 clear h
 replace H := Option.bind_eq_some_iff.mp H
 obtain ⟨⟨t177, t178⟩, A40, H⟩ := H
 replace H : ((refill_time.f l0 a2).bind fun bt179 => (if a1 ≥ 0 then ((refill_time.f l0 a1).bind fun bt184 => (some (mx t177 (wrap64 (bt179.1 - bt184.2)), mn t178 (wrap64 (bt179.2 - bt184.1))))) else (some (mx t177 (wrap64 (bt179.1)), mn t178 (wrap64 (bt179.2)))))) = some (r1, r2) := H
 have A4 := a_ A40
 clear A40
 replace H := Option.bind_eq_some_iff.mp H
 obtain ⟨⟨t179, t180⟩, A50, H⟩ := H
 replace H : (if a1 ≥ 0 then ((refill_time.f l0 a1).bind fun bt184 => (some (mx t177 (wrap64 (t179 - bt184.2)), mn t178 (wrap64 (t180 - bt184.1))))) else (some (mx t177 (wrap64 (t179)), mn t178 (wrap64 (t180))))) = some (r1, r2) := H
 have A5 := a_ A50
 clear A50
 by_cases c6 : a1 ≥ 0
 ·rw [if_pos c6] at H
  have c6b0 : decide (0 ≤ a1) = true := decide_eq_true c6
  clear c6
  replace H := Option.bind_eq_some_iff.mp H
  obtain ⟨⟨t184, t185⟩, A70, H⟩ := H
  replace H : (some (mx t177 (wrap64 (t179 - t185)), mn t178 (wrap64 (t180 - t184)))) = some (r1, r2) := H
  have A7 := a_ A70
  clear A70
  obtain ⟨ji8, hji8⟩ : ∃ j_ : Int, (mx t177 (wrap64 (t179 - t185))) = j_ := ⟨_, rfl⟩
  replace H : (some (ji8, mn t178 (wrap64 (t180 - t184)))) = some (r1, r2) := by first | (rw [hji8] at H; exact H) | (simp only [hji8] at H ⊢; exact H)
  (try rw [hji8] at A4)
  (try rw [hji8] at A5)
  (try rw [hji8] at A7)
  have hji8_ : (if t177 < (wrap64 (t179 - t185)) then (wrap64 (t179 - t185)) else t177) = ji8 := hji8
  obtain ⟨ji9, hji9⟩ : ∃ j_ : Int, (mn t178 (wrap64 (t180 - t184))) = j_ := ⟨_, rfl⟩
  replace H : (some (ji8, ji9)) = some (r1, r2) := by first | (rw [hji9] at H; exact H) | (simp only [hji9] at H ⊢; exact H)
  (try rw [hji9] at A4)
  (try rw [hji9] at A5)
  (try rw [hji9] at A7)
  have hji9_ : (if (wrap64 (t180 - t184)) < t178 then (wrap64 (t180 - t184)) else t178) = ji9 := hji9
  simp only [Option.some.injEq, Prod.mk.injEq] at H
  obtain ⟨rfl, rfl⟩ := H
  go_enter Tryz.func42, Tryz.ntmps42
  go_wp2_with (first | ((with_reducible refine gate_dst (N := 6) rfl ?_); refine box_event ?hg (N := 6) ?hd (cs := #[.int .i64 0, .int .i64 0]) (t := 35) ?hr ?_; (case hd => rfl); (case hg => rfl); (case hr => first | (go_simp; done) | (go_simp; rfl)); intro gb176 hg w10 hbox hb; have n0_ := a_ (below_step bl_ hb); have n1_ := a_ (hbox); have n2_ := a_ ((bz_ (w := w) hg)); have n3_ := a_ ((bz_ (w := w) hg)); clear HB; have HB := n0_; have BK176 := n1_; have GW176 := n2_; have GE176 := n3_; clear n0_ n1_ n2_ n3_; clear hb hbox hg) | ((with_reducible refine gate_callee (f := 64) rfl ?_); refine goesL_ (some 13) rfl rfl Tryz.func64 (by kernel_rfl) rfl #[.slice A0 l0.length c0, .int .i64 a1, .int .i64 a2] rfl tm_ ?_; (with_reducible refine (refill_behind.calls k _ _ l0 a1 a2 t177 t178 _ ?side1 ?side2 A4.out).mono ?_); (case side1 => exact cl_ (Kd.C_below HR0.out HB.out)); (case side2 => exact HC0.out); rintro e w11 ⟨rfl, hb⟩; refine ⟨_, rfl, ?_⟩; have n0_ := a_ (bb_ BK176.out hb); have n1_ := a_ (below_step bl_ hb); clear BK176; clear HB; have BK176 := n0_; have HB := n1_; clear n0_ n1_; (try clear hb); (try clear hb2); (try clear hk); (try clear hi)) | ((with_reducible refine gate_callee (f := 45) rfl ?_); refine goesL_ (some 16) rfl rfl Tryz.func45 (by kernel_rfl) rfl #[.slice A0 l0.length c0, .int .i64 a2] rfl tm_ ?_; (with_reducible refine (refill_time.calls _ _ l0 a2 t179 t180 _ ?side1 ?side2 A5.out).mono ?_); (case side1 => exact cl_ (Kd.C_below HR0.out HB.out)); (case side2 => exact HC0.out); rintro e w12 ⟨rfl, hb⟩; refine ⟨_, rfl, ?_⟩; have n0_ := a_ (bb_ BK176.out hb); have n1_ := a_ (below_step bl_ hb); clear BK176; clear HB; have BK176 := n0_; have HB := n1_; clear n0_ n1_; (try clear hb); (try clear hb2); (try clear hk); (try clear hi)) | ((with_reducible refine gate_dst (N := 7) rfl ?_); refine box_event ?hg (N := 7) ?hd (cs := #[.int .i64 0, .int .i64 0]) (t := 35) ?hr ?_; (case hd => rfl); (case hg => rfl); (case hr => first | (go_simp; done) | (go_simp; rfl)); intro gb181 hg w13 hbox hb; have n0_ := a_ (bb_ BK176.out hb); have n1_ := a_ (below_step bl_ hb); have n2_ := a_ (hbox); have n3_ := a_ ((bz_ (w := w) hg)); have n4_ := a_ ((bz_ (w := w) hg)); have n5_ := a_ ((nl_ BK176.out hg)); have n6_ := a_ ((ng_ BK176.out hg)); clear BK176; clear HB; have BK176 := n0_; have HB := n1_; have BK181 := n2_; have GW181 := n3_; have GE181 := n4_; have NB176_181 := n5_; have NB181_176 := n6_; clear n0_ n1_ n2_ n3_ n4_ n5_ n6_; clear hb hbox hg) | ((with_reducible refine gate_dst (N := 8) rfl ?_); refine box_event ?hg (N := 8) ?hd (cs := #[.int .i64 0, .int .i64 0]) (t := 35) ?hr ?_; (case hd => rfl); (case hg => rfl); (case hr => first | (go_simp; done) | (go_simp; rfl)); intro gb182 hg w14 hbox hb; have n0_ := a_ (bb_ BK176.out hb); have n1_ := a_ (bb_ BK181.out hb); have n2_ := a_ (below_step bl_ hb); have n3_ := a_ (hbox); have n4_ := a_ ((bz_ (w := w) hg)); have n5_ := a_ ((bz_ (w := w) hg)); have n6_ := a_ ((nl_ BK176.out hg)); have n7_ := a_ ((ng_ BK176.out hg)); have n8_ := a_ ((nl_ BK181.out hg)); have n9_ := a_ ((ng_ BK181.out hg)); clear BK176; clear BK181; clear HB; have BK176 := n0_; have BK181 := n1_; have HB := n2_; have BK182 := n3_; have GW182 := n4_; have GE182 := n5_; have NB176_182 := n6_; have NB182_176 := n7_; have NB181_182 := n8_; have NB182_181 := n9_; clear n0_ n1_ n2_ n3_ n4_ n5_ n6_ n7_ n8_ n9_; clear hb hbox hg; have hnb15 := NB181_176.out; have hnc15 := NB176_181.out; have hnb16 := NB181_182.out; have hnc16 := NB182_181.out; have hcz17_0 : w14.cell? ⟨gb181, 0, none⟩ = some (.int .i64 0) := (blk_cell BK181.out 0).trans rfl; have hcz17_1 : w14.cell? ⟨gb181, 1, none⟩ = some (.int .i64 0) := (blk_cell BK181.out 1).trans rfl; have hfz17_0 := blk_frozen BK181.out 0; have hfz17_1 := blk_frozen BK181.out 1; have hnb18 := NB182_176.out; have hnc18 := NB176_182.out; have hcz19_0 : w14.cell? ⟨gb182, 0, none⟩ = some (.int .i64 0) := (blk_cell BK182.out 0).trans rfl; have hcz19_1 : w14.cell? ⟨gb182, 1, none⟩ = some (.int .i64 0) := (blk_cell BK182.out 1).trans rfl; have hfz19_0 := blk_frozen BK182.out 0; have hfz19_1 := blk_frozen BK182.out 1) | ((with_reducible refine gate_dst (N := 9) rfl ?_); refine box_event ?hg (N := 9) ?hd (cs := #[.int .i64 0, .int .i64 0]) (t := 35) ?hr ?_; (case hd => rfl); (case hg => rfl); (case hr => first | (go_simp; done) | (go_simp; rfl)); intro gb183 hg w20 hbox hb; have n0_ := a_ (blk_below (g := gb176) (o := .cells #[.int .i64 0, .int .i64 0] 35 (0, 0)) (by (with_reducible repeat (first | refine blk_drewN ?_ _ | refine blk_drew ?_ | refine blk_alloc ?_ _)); refine blk_far ?_ NB176_182.out _; (with_reducible repeat (first | refine blk_drewN ?_ _ | refine blk_drew ?_ | refine blk_alloc ?_ _)); refine blk_far ?_ NB176_182.out _; (with_reducible repeat (first | refine blk_drewN ?_ _ | refine blk_drew ?_ | refine blk_alloc ?_ _)); refine blk_far ?_ NB176_181.out _; (with_reducible repeat (first | refine blk_drewN ?_ _ | refine blk_drew ?_ | refine blk_alloc ?_ _)); refine blk_far ?_ NB176_181.out _; (with_reducible repeat (first | refine blk_drewN ?_ _ | refine blk_drew ?_ | refine blk_alloc ?_ _)); exact BK176.out) hb); have n1_ := a_ (blk_below (g := gb181) (o := .cells #[.int .i64 t177, .int .i64 t178] 35 (0, 0)) (by (with_reducible repeat (first | refine blk_drewN ?_ _ | refine blk_drew ?_ | refine blk_alloc ?_ _)); refine blk_far ?_ NB181_182.out _; (with_reducible repeat (first | refine blk_drewN ?_ _ | refine blk_drew ?_ | refine blk_alloc ?_ _)); refine blk_far ?_ NB181_182.out _; (with_reducible repeat (first | refine blk_drewN ?_ _ | refine blk_drew ?_ | refine blk_alloc ?_ _)); refine blk_put (cs := #[.int .i64 t177, .int .i64 0]) ?_ 1 _ rfl; (with_reducible repeat (first | refine blk_drewN ?_ _ | refine blk_drew ?_ | refine blk_alloc ?_ _)); refine blk_put (cs := #[.int .i64 0, .int .i64 0]) ?_ 0 _ rfl; (with_reducible repeat (first | refine blk_drewN ?_ _ | refine blk_drew ?_ | refine blk_alloc ?_ _)); exact BK181.out) hb); have n2_ := a_ (blk_below (g := gb182) (o := .cells #[.int .i64 t179, .int .i64 t180] 35 (0, 0)) (by (with_reducible repeat (first | refine blk_drewN ?_ _ | refine blk_drew ?_ | refine blk_alloc ?_ _)); refine blk_put (cs := #[.int .i64 t179, .int .i64 0]) ?_ 1 _ rfl; (with_reducible repeat (first | refine blk_drewN ?_ _ | refine blk_drew ?_ | refine blk_alloc ?_ _)); refine blk_put (cs := #[.int .i64 0, .int .i64 0]) ?_ 0 _ rfl; (with_reducible repeat (first | refine blk_drewN ?_ _ | refine blk_drew ?_ | refine blk_alloc ?_ _)); refine blk_far ?_ NB182_181.out _; (with_reducible repeat (first | refine blk_drewN ?_ _ | refine blk_drew ?_ | refine blk_alloc ?_ _)); refine blk_far ?_ NB182_181.out _; (with_reducible repeat (first | refine blk_drewN ?_ _ | refine blk_drew ?_ | refine blk_alloc ?_ _)); exact BK182.out) hb); have n3_ := a_ (below_step bl_ hb); have n4_ := a_ (hbox); have n5_ := a_ ((bz_ (w := w) hg)); have n6_ := a_ ((bz_ (w := w) hg)); have n7_ := a_ ((by rw [hg]; exact Nat.ne_of_lt (blk_lt (g := gb176) (o := .cells #[.int .i64 0, .int .i64 0] 35 (0, 0)) (by (with_reducible repeat (first | refine blk_drewN ?_ _ | refine blk_drew ?_ | refine blk_alloc ?_ _)); refine blk_far ?_ NB176_182.out _; (with_reducible repeat (first | refine blk_drewN ?_ _ | refine blk_drew ?_ | refine blk_alloc ?_ _)); refine blk_far ?_ NB176_182.out _; (with_reducible repeat (first | refine blk_drewN ?_ _ | refine blk_drew ?_ | refine blk_alloc ?_ _)); refine blk_far ?_ NB176_181.out _; (with_reducible repeat (first | refine blk_drewN ?_ _ | refine blk_drew ?_ | refine blk_alloc ?_ _)); refine blk_far ?_ NB176_181.out _; (with_reducible repeat (first | refine blk_drewN ?_ _ | refine blk_drew ?_ | refine blk_alloc ?_ _)); exact BK176.out)) : gb176 ≠ gb183)); have n8_ := a_ ((by rw [hg]; exact Nat.ne_of_gt (blk_lt (g := gb176) (o := .cells #[.int .i64 0, .int .i64 0] 35 (0, 0)) (by (with_reducible repeat (first | refine blk_drewN ?_ _ | refine blk_drew ?_ | refine blk_alloc ?_ _)); refine blk_far ?_ NB176_182.out _; (with_reducible repeat (first | refine blk_drewN ?_ _ | refine blk_drew ?_ | refine blk_alloc ?_ _)); refine blk_far ?_ NB176_182.out _; (with_reducible repeat (first | refine blk_drewN ?_ _ | refine blk_drew ?_ | refine blk_alloc ?_ _)); refine blk_far ?_ NB176_181.out _; (with_reducible repeat (first | refine blk_drewN ?_ _ | refine blk_drew ?_ | refine blk_alloc ?_ _)); refine blk_far ?_ NB176_181.out _; (with_reducible repeat (first | refine blk_drewN ?_ _ | refine blk_drew ?_ | refine blk_alloc ?_ _)); exact BK176.out)) : gb183 ≠ gb176)); have n9_ := a_ ((by rw [hg]; exact Nat.ne_of_lt (blk_lt (g := gb181) (o := .cells #[.int .i64 t177, .int .i64 t178] 35 (0, 0)) (by (with_reducible repeat (first | refine blk_drewN ?_ _ | refine blk_drew ?_ | refine blk_alloc ?_ _)); refine blk_far ?_ NB181_182.out _; (with_reducible repeat (first | refine blk_drewN ?_ _ | refine blk_drew ?_ | refine blk_alloc ?_ _)); refine blk_far ?_ NB181_182.out _; (with_reducible repeat (first | refine blk_drewN ?_ _ | refine blk_drew ?_ | refine blk_alloc ?_ _)); refine blk_put (cs := #[.int .i64 t177, .int .i64 0]) ?_ 1 _ rfl; (with_reducible repeat (first | refine blk_drewN ?_ _ | refine blk_drew ?_ | refine blk_alloc ?_ _)); refine blk_put (cs := #[.int .i64 0, .int .i64 0]) ?_ 0 _ rfl; (with_reducible repeat (first | refine blk_drewN ?_ _ | refine blk_drew ?_ | refine blk_alloc ?_ _)); exact BK181.out)) : gb181 ≠ gb183)); have n10_ := a_ ((by rw [hg]; exact Nat.ne_of_gt (blk_lt (g := gb181) (o := .cells #[.int .i64 t177, .int .i64 t178] 35 (0, 0)) (by (with_reducible repeat (first | refine blk_drewN ?_ _ | refine blk_drew ?_ | refine blk_alloc ?_ _)); refine blk_far ?_ NB181_182.out _; (with_reducible repeat (first | refine blk_drewN ?_ _ | refine blk_drew ?_ | refine blk_alloc ?_ _)); refine blk_far ?_ NB181_182.out _; (with_reducible repeat (first | refine blk_drewN ?_ _ | refine blk_drew ?_ | refine blk_alloc ?_ _)); refine blk_put (cs := #[.int .i64 t177, .int .i64 0]) ?_ 1 _ rfl; (with_reducible repeat (first | refine blk_drewN ?_ _ | refine blk_drew ?_ | refine blk_alloc ?_ _)); refine blk_put (cs := #[.int .i64 0, .int .i64 0]) ?_ 0 _ rfl; (with_reducible repeat (first | refine blk_drewN ?_ _ | refine blk_drew ?_ | refine blk_alloc ?_ _)); exact BK181.out)) : gb183 ≠ gb181)); have n11_ := a_ ((by rw [hg]; exact Nat.ne_of_lt (blk_lt (g := gb182) (o := .cells #[.int .i64 t179, .int .i64 t180] 35 (0, 0)) (by (with_reducible repeat (first | refine blk_drewN ?_ _ | refine blk_drew ?_ | refine blk_alloc ?_ _)); refine blk_put (cs := #[.int .i64 t179, .int .i64 0]) ?_ 1 _ rfl; (with_reducible repeat (first | refine blk_drewN ?_ _ | refine blk_drew ?_ | refine blk_alloc ?_ _)); refine blk_put (cs := #[.int .i64 0, .int .i64 0]) ?_ 0 _ rfl; (with_reducible repeat (first | refine blk_drewN ?_ _ | refine blk_drew ?_ | refine blk_alloc ?_ _)); refine blk_far ?_ NB182_181.out _; (with_reducible repeat (first | refine blk_drewN ?_ _ | refine blk_drew ?_ | refine blk_alloc ?_ _)); refine blk_far ?_ NB182_181.out _; (with_reducible repeat (first | refine blk_drewN ?_ _ | refine blk_drew ?_ | refine blk_alloc ?_ _)); exact BK182.out)) : gb182 ≠ gb183)); have n12_ := a_ ((by rw [hg]; exact Nat.ne_of_gt (blk_lt (g := gb182) (o := .cells #[.int .i64 t179, .int .i64 t180] 35 (0, 0)) (by (with_reducible repeat (first | refine blk_drewN ?_ _ | refine blk_drew ?_ | refine blk_alloc ?_ _)); refine blk_put (cs := #[.int .i64 t179, .int .i64 0]) ?_ 1 _ rfl; (with_reducible repeat (first | refine blk_drewN ?_ _ | refine blk_drew ?_ | refine blk_alloc ?_ _)); refine blk_put (cs := #[.int .i64 0, .int .i64 0]) ?_ 0 _ rfl; (with_reducible repeat (first | refine blk_drewN ?_ _ | refine blk_drew ?_ | refine blk_alloc ?_ _)); refine blk_far ?_ NB182_181.out _; (with_reducible repeat (first | refine blk_drewN ?_ _ | refine blk_drew ?_ | refine blk_alloc ?_ _)); refine blk_far ?_ NB182_181.out _; (with_reducible repeat (first | refine blk_drewN ?_ _ | refine blk_drew ?_ | refine blk_alloc ?_ _)); exact BK182.out)) : gb183 ≠ gb182)); clear BK176; clear BK181; clear BK182; clear HB; have BK176 := n0_; have BK181 := n1_; have BK182 := n2_; have HB := n3_; have BK183 := n4_; have GW183 := n5_; have GE183 := n6_; have NB176_183 := n7_; have NB183_176 := n8_; have NB181_183 := n9_; have NB183_181 := n10_; have NB182_183 := n11_; have NB183_182 := n12_; clear n0_ n1_ n2_ n3_ n4_ n5_ n6_ n7_ n8_ n9_ n10_ n11_ n12_; clear hb hbox hg) | ((with_reducible refine gate_callee (f := 45) rfl ?_); refine goesL_ (some 21) rfl rfl Tryz.func45 (by kernel_rfl) rfl #[.slice A0 l0.length c0, .int .i64 a1] rfl tm_ ?_; (with_reducible refine (refill_time.calls _ _ l0 a1 t184 t185 _ ?side1 ?side2 A7.out).mono ?_); (case side1 => exact cl_ (Kd.C_below HR0.out HB.out)); (case side2 => exact HC0.out); rintro e w21 ⟨rfl, hb⟩; refine ⟨_, rfl, ?_⟩; have n0_ := a_ (bb_ BK176.out hb); have n1_ := a_ (bb_ BK181.out hb); have n2_ := a_ (bb_ BK182.out hb); have n3_ := a_ (bb_ BK183.out hb); have n4_ := a_ (below_step bl_ hb); clear BK176; clear BK181; clear BK182; clear BK183; clear HB; have BK176 := n0_; have BK181 := n1_; have BK182 := n2_; have BK183 := n3_; have HB := n4_; clear n0_ n1_ n2_ n3_ n4_; (try clear hb); (try clear hb2); (try clear hk); (try clear hi); have hnb22 := NB183_176.out; have hnc22 := NB176_183.out; have hnb23 := NB183_181.out; have hnc23 := NB181_183.out; have hnb24 := NB183_182.out; have hnc24 := NB182_183.out; have hcz25_0 : w21.cell? ⟨gb183, 0, none⟩ = some (.int .i64 0) := (blk_cell BK183.out 0).trans rfl; have hcz25_1 : w21.cell? ⟨gb183, 1, none⟩ = some (.int .i64 0) := (blk_cell BK183.out 1).trans rfl; have hfz25_0 := blk_frozen BK183.out 0; have hfz25_1 := blk_frozen BK183.out 1; have hcz26_0 : w21.cell? ⟨gb181, 0, none⟩ = some (.int .i64 t177) := (blk_cell BK181.out 0).trans rfl; have hcz26_1 : w21.cell? ⟨gb181, 1, none⟩ = some (.int .i64 t178) := (blk_cell BK181.out 1).trans rfl; have hfz26_0 := blk_frozen BK181.out 0; have hfz26_1 := blk_frozen BK181.out 1; have hcz27_0 : w21.cell? ⟨gb182, 0, none⟩ = some (.int .i64 t179) := (blk_cell BK182.out 0).trans rfl; have hcz27_1 : w21.cell? ⟨gb182, 1, none⟩ = some (.int .i64 t180) := (blk_cell BK182.out 1).trans rfl; have hfz27_0 := blk_frozen BK182.out 0; have hfz27_1 := blk_frozen BK182.out 1; have hcz28_0 : w21.cell? ⟨gb176, 0, none⟩ = some (.int .i64 0) := (blk_cell BK176.out 0).trans rfl; have hcz28_1 : w21.cell? ⟨gb176, 1, none⟩ = some (.int .i64 0) := (blk_cell BK176.out 1).trans rfl; have hfz28_0 := blk_frozen BK176.out 0; have hfz28_1 := blk_frozen BK176.out 1))
  refine bodyPost_ret (results_cell_row rfl _ _ gb176 35 #[.int .i64 ji8, .int .i64 ji9] (0, 0) _ rfl (by (with_reducible repeat (first | refine blk_drewN ?_ _ | refine blk_drew ?_ | refine blk_alloc ?_ _)); refine blk_put (cs := #[.int .i64 ji8, .int .i64 0]) ?_ 1 _ rfl; (with_reducible repeat (first | refine blk_drewN ?_ _ | refine blk_drew ?_ | refine blk_alloc ?_ _)); refine blk_put (cs := #[.int .i64 0, .int .i64 0]) ?_ 0 _ rfl; (with_reducible repeat (first | refine blk_drewN ?_ _ | refine blk_drew ?_ | refine blk_alloc ?_ _)); refine blk_far ?_ NB176_183.out _; (with_reducible repeat (first | refine blk_drewN ?_ _ | refine blk_drew ?_ | refine blk_alloc ?_ _)); refine blk_far ?_ NB176_183.out _; (with_reducible repeat (first | refine blk_drewN ?_ _ | refine blk_drew ?_ | refine blk_alloc ?_ _)); exact BK176.out) Tryz.underlying35 rfl (by kernel_rfl)) rfl ?_
  exact ⟨by first | rfl | (simp [errW_none, errW_some] <;> rfl) | (simp only [← hji8, ← hji9]; first | rfl | (simp [errW_none, errW_some] <;> rfl)) | (simp [*, errW_none, errW_some] <;> rfl), bl_⟩
 ·rw [if_neg c6] at H
  have c6b0 : decide (0 ≤ a1) = false := decide_eq_false c6
  clear c6
  obtain ⟨ji29, hji29⟩ : ∃ j_ : Int, (mx t177 (wrap64 (t179))) = j_ := ⟨_, rfl⟩
  replace H : (some (ji29, mn t178 (wrap64 (t180)))) = some (r1, r2) := by first | (rw [hji29] at H; exact H) | (simp only [hji29] at H ⊢; exact H)
  (try rw [hji29] at A4)
  (try rw [hji29] at A5)
  have hji29_ : (if t177 < (wrap64 (t179)) then (wrap64 (t179)) else t177) = ji29 := hji29
  obtain ⟨ji30, hji30⟩ : ∃ j_ : Int, (mn t178 (wrap64 (t180))) = j_ := ⟨_, rfl⟩
  replace H : (some (ji29, ji30)) = some (r1, r2) := by first | (rw [hji30] at H; exact H) | (simp only [hji30] at H ⊢; exact H)
  (try rw [hji30] at A4)
  (try rw [hji30] at A5)
  have hji30_ : (if (wrap64 (t180)) < t178 then (wrap64 (t180)) else t178) = ji30 := hji30
  simp only [Option.some.injEq, Prod.mk.injEq] at H
  obtain ⟨rfl, rfl⟩ := H
  go_enter Tryz.func42, Tryz.ntmps42
  go_wp2_with (first | ((with_reducible refine gate_dst (N := 6) rfl ?_); refine box_event ?hg (N := 6) ?hd (cs := #[.int .i64 0, .int .i64 0]) (t := 35) ?hr ?_; (case hd => rfl); (case hg => rfl); (case hr => first | (go_simp; done) | (go_simp; rfl)); intro gb176 hg w31 hbox hb; have n0_ := a_ (below_step bl_ hb); have n1_ := a_ (hbox); have n2_ := a_ ((bz_ (w := w) hg)); have n3_ := a_ ((bz_ (w := w) hg)); clear HB; have HB := n0_; have BK176 := n1_; have GW176 := n2_; have GE176 := n3_; clear n0_ n1_ n2_ n3_; clear hb hbox hg) | ((with_reducible refine gate_callee (f := 64) rfl ?_); refine goesL_ (some 13) rfl rfl Tryz.func64 (by kernel_rfl) rfl #[.slice A0 l0.length c0, .int .i64 a1, .int .i64 a2] rfl tm_ ?_; (with_reducible refine (refill_behind.calls k _ _ l0 a1 a2 t177 t178 _ ?side1 ?side2 A4.out).mono ?_); (case side1 => exact cl_ (Kd.C_below HR0.out HB.out)); (case side2 => exact HC0.out); rintro e w32 ⟨rfl, hb⟩; refine ⟨_, rfl, ?_⟩; have n0_ := a_ (bb_ BK176.out hb); have n1_ := a_ (below_step bl_ hb); clear BK176; clear HB; have BK176 := n0_; have HB := n1_; clear n0_ n1_; (try clear hb); (try clear hb2); (try clear hk); (try clear hi)) | ((with_reducible refine gate_callee (f := 45) rfl ?_); refine goesL_ (some 16) rfl rfl Tryz.func45 (by kernel_rfl) rfl #[.slice A0 l0.length c0, .int .i64 a2] rfl tm_ ?_; (with_reducible refine (refill_time.calls _ _ l0 a2 t179 t180 _ ?side1 ?side2 A5.out).mono ?_); (case side1 => exact cl_ (Kd.C_below HR0.out HB.out)); (case side2 => exact HC0.out); rintro e w33 ⟨rfl, hb⟩; refine ⟨_, rfl, ?_⟩; have n0_ := a_ (bb_ BK176.out hb); have n1_ := a_ (below_step bl_ hb); clear BK176; clear HB; have BK176 := n0_; have HB := n1_; clear n0_ n1_; (try clear hb); (try clear hb2); (try clear hk); (try clear hi)) | ((with_reducible refine gate_dst (N := 7) rfl ?_); refine box_event ?hg (N := 7) ?hd (cs := #[.int .i64 0, .int .i64 0]) (t := 35) ?hr ?_; (case hd => rfl); (case hg => rfl); (case hr => first | (go_simp; done) | (go_simp; rfl)); intro gb181 hg w34 hbox hb; have n0_ := a_ (bb_ BK176.out hb); have n1_ := a_ (below_step bl_ hb); have n2_ := a_ (hbox); have n3_ := a_ ((bz_ (w := w) hg)); have n4_ := a_ ((bz_ (w := w) hg)); have n5_ := a_ ((nl_ BK176.out hg)); have n6_ := a_ ((ng_ BK176.out hg)); clear BK176; clear HB; have BK176 := n0_; have HB := n1_; have BK181 := n2_; have GW181 := n3_; have GE181 := n4_; have NB176_181 := n5_; have NB181_176 := n6_; clear n0_ n1_ n2_ n3_ n4_ n5_ n6_; clear hb hbox hg) | ((with_reducible refine gate_dst (N := 8) rfl ?_); refine box_event ?hg (N := 8) ?hd (cs := #[.int .i64 0, .int .i64 0]) (t := 35) ?hr ?_; (case hd => rfl); (case hg => rfl); (case hr => first | (go_simp; done) | (go_simp; rfl)); intro gb182 hg w35 hbox hb; have n0_ := a_ (bb_ BK176.out hb); have n1_ := a_ (bb_ BK181.out hb); have n2_ := a_ (below_step bl_ hb); have n3_ := a_ (hbox); have n4_ := a_ ((bz_ (w := w) hg)); have n5_ := a_ ((bz_ (w := w) hg)); have n6_ := a_ ((nl_ BK176.out hg)); have n7_ := a_ ((ng_ BK176.out hg)); have n8_ := a_ ((nl_ BK181.out hg)); have n9_ := a_ ((ng_ BK181.out hg)); clear BK176; clear BK181; clear HB; have BK176 := n0_; have BK181 := n1_; have HB := n2_; have BK182 := n3_; have GW182 := n4_; have GE182 := n5_; have NB176_182 := n6_; have NB182_176 := n7_; have NB181_182 := n8_; have NB182_181 := n9_; clear n0_ n1_ n2_ n3_ n4_ n5_ n6_ n7_ n8_ n9_; clear hb hbox hg; have hnb36 := NB181_176.out; have hnc36 := NB176_181.out; have hnb37 := NB181_182.out; have hnc37 := NB182_181.out; have hcz38_0 : w35.cell? ⟨gb181, 0, none⟩ = some (.int .i64 0) := (blk_cell BK181.out 0).trans rfl; have hcz38_1 : w35.cell? ⟨gb181, 1, none⟩ = some (.int .i64 0) := (blk_cell BK181.out 1).trans rfl; have hfz38_0 := blk_frozen BK181.out 0; have hfz38_1 := blk_frozen BK181.out 1; have hnb39 := NB182_176.out; have hnc39 := NB176_182.out; have hcz40_0 : w35.cell? ⟨gb182, 0, none⟩ = some (.int .i64 0) := (blk_cell BK182.out 0).trans rfl; have hcz40_1 : w35.cell? ⟨gb182, 1, none⟩ = some (.int .i64 0) := (blk_cell BK182.out 1).trans rfl; have hfz40_0 := blk_frozen BK182.out 0; have hfz40_1 := blk_frozen BK182.out 1) | ((with_reducible refine gate_dst (N := 9) rfl ?_); refine box_event ?hg (N := 9) ?hd (cs := #[.int .i64 0, .int .i64 0]) (t := 35) ?hr ?_; (case hd => rfl); (case hg => rfl); (case hr => first | (go_simp; done) | (go_simp; rfl)); intro gb183 hg w41 hbox hb; have n0_ := a_ (blk_below (g := gb176) (o := .cells #[.int .i64 0, .int .i64 0] 35 (0, 0)) (by (with_reducible repeat (first | refine blk_drewN ?_ _ | refine blk_drew ?_ | refine blk_alloc ?_ _)); refine blk_far ?_ NB176_182.out _; (with_reducible repeat (first | refine blk_drewN ?_ _ | refine blk_drew ?_ | refine blk_alloc ?_ _)); refine blk_far ?_ NB176_182.out _; (with_reducible repeat (first | refine blk_drewN ?_ _ | refine blk_drew ?_ | refine blk_alloc ?_ _)); refine blk_far ?_ NB176_181.out _; (with_reducible repeat (first | refine blk_drewN ?_ _ | refine blk_drew ?_ | refine blk_alloc ?_ _)); refine blk_far ?_ NB176_181.out _; (with_reducible repeat (first | refine blk_drewN ?_ _ | refine blk_drew ?_ | refine blk_alloc ?_ _)); exact BK176.out) hb); have n1_ := a_ (blk_below (g := gb181) (o := .cells #[.int .i64 t177, .int .i64 t178] 35 (0, 0)) (by (with_reducible repeat (first | refine blk_drewN ?_ _ | refine blk_drew ?_ | refine blk_alloc ?_ _)); refine blk_far ?_ NB181_182.out _; (with_reducible repeat (first | refine blk_drewN ?_ _ | refine blk_drew ?_ | refine blk_alloc ?_ _)); refine blk_far ?_ NB181_182.out _; (with_reducible repeat (first | refine blk_drewN ?_ _ | refine blk_drew ?_ | refine blk_alloc ?_ _)); refine blk_put (cs := #[.int .i64 t177, .int .i64 0]) ?_ 1 _ rfl; (with_reducible repeat (first | refine blk_drewN ?_ _ | refine blk_drew ?_ | refine blk_alloc ?_ _)); refine blk_put (cs := #[.int .i64 0, .int .i64 0]) ?_ 0 _ rfl; (with_reducible repeat (first | refine blk_drewN ?_ _ | refine blk_drew ?_ | refine blk_alloc ?_ _)); exact BK181.out) hb); have n2_ := a_ (blk_below (g := gb182) (o := .cells #[.int .i64 t179, .int .i64 t180] 35 (0, 0)) (by (with_reducible repeat (first | refine blk_drewN ?_ _ | refine blk_drew ?_ | refine blk_alloc ?_ _)); refine blk_put (cs := #[.int .i64 t179, .int .i64 0]) ?_ 1 _ rfl; (with_reducible repeat (first | refine blk_drewN ?_ _ | refine blk_drew ?_ | refine blk_alloc ?_ _)); refine blk_put (cs := #[.int .i64 0, .int .i64 0]) ?_ 0 _ rfl; (with_reducible repeat (first | refine blk_drewN ?_ _ | refine blk_drew ?_ | refine blk_alloc ?_ _)); refine blk_far ?_ NB182_181.out _; (with_reducible repeat (first | refine blk_drewN ?_ _ | refine blk_drew ?_ | refine blk_alloc ?_ _)); refine blk_far ?_ NB182_181.out _; (with_reducible repeat (first | refine blk_drewN ?_ _ | refine blk_drew ?_ | refine blk_alloc ?_ _)); exact BK182.out) hb); have n3_ := a_ (below_step bl_ hb); have n4_ := a_ (hbox); have n5_ := a_ ((bz_ (w := w) hg)); have n6_ := a_ ((bz_ (w := w) hg)); have n7_ := a_ ((by rw [hg]; exact Nat.ne_of_lt (blk_lt (g := gb176) (o := .cells #[.int .i64 0, .int .i64 0] 35 (0, 0)) (by (with_reducible repeat (first | refine blk_drewN ?_ _ | refine blk_drew ?_ | refine blk_alloc ?_ _)); refine blk_far ?_ NB176_182.out _; (with_reducible repeat (first | refine blk_drewN ?_ _ | refine blk_drew ?_ | refine blk_alloc ?_ _)); refine blk_far ?_ NB176_182.out _; (with_reducible repeat (first | refine blk_drewN ?_ _ | refine blk_drew ?_ | refine blk_alloc ?_ _)); refine blk_far ?_ NB176_181.out _; (with_reducible repeat (first | refine blk_drewN ?_ _ | refine blk_drew ?_ | refine blk_alloc ?_ _)); refine blk_far ?_ NB176_181.out _; (with_reducible repeat (first | refine blk_drewN ?_ _ | refine blk_drew ?_ | refine blk_alloc ?_ _)); exact BK176.out)) : gb176 ≠ gb183)); have n8_ := a_ ((by rw [hg]; exact Nat.ne_of_gt (blk_lt (g := gb176) (o := .cells #[.int .i64 0, .int .i64 0] 35 (0, 0)) (by (with_reducible repeat (first | refine blk_drewN ?_ _ | refine blk_drew ?_ | refine blk_alloc ?_ _)); refine blk_far ?_ NB176_182.out _; (with_reducible repeat (first | refine blk_drewN ?_ _ | refine blk_drew ?_ | refine blk_alloc ?_ _)); refine blk_far ?_ NB176_182.out _; (with_reducible repeat (first | refine blk_drewN ?_ _ | refine blk_drew ?_ | refine blk_alloc ?_ _)); refine blk_far ?_ NB176_181.out _; (with_reducible repeat (first | refine blk_drewN ?_ _ | refine blk_drew ?_ | refine blk_alloc ?_ _)); refine blk_far ?_ NB176_181.out _; (with_reducible repeat (first | refine blk_drewN ?_ _ | refine blk_drew ?_ | refine blk_alloc ?_ _)); exact BK176.out)) : gb183 ≠ gb176)); have n9_ := a_ ((by rw [hg]; exact Nat.ne_of_lt (blk_lt (g := gb181) (o := .cells #[.int .i64 t177, .int .i64 t178] 35 (0, 0)) (by (with_reducible repeat (first | refine blk_drewN ?_ _ | refine blk_drew ?_ | refine blk_alloc ?_ _)); refine blk_far ?_ NB181_182.out _; (with_reducible repeat (first | refine blk_drewN ?_ _ | refine blk_drew ?_ | refine blk_alloc ?_ _)); refine blk_far ?_ NB181_182.out _; (with_reducible repeat (first | refine blk_drewN ?_ _ | refine blk_drew ?_ | refine blk_alloc ?_ _)); refine blk_put (cs := #[.int .i64 t177, .int .i64 0]) ?_ 1 _ rfl; (with_reducible repeat (first | refine blk_drewN ?_ _ | refine blk_drew ?_ | refine blk_alloc ?_ _)); refine blk_put (cs := #[.int .i64 0, .int .i64 0]) ?_ 0 _ rfl; (with_reducible repeat (first | refine blk_drewN ?_ _ | refine blk_drew ?_ | refine blk_alloc ?_ _)); exact BK181.out)) : gb181 ≠ gb183)); have n10_ := a_ ((by rw [hg]; exact Nat.ne_of_gt (blk_lt (g := gb181) (o := .cells #[.int .i64 t177, .int .i64 t178] 35 (0, 0)) (by (with_reducible repeat (first | refine blk_drewN ?_ _ | refine blk_drew ?_ | refine blk_alloc ?_ _)); refine blk_far ?_ NB181_182.out _; (with_reducible repeat (first | refine blk_drewN ?_ _ | refine blk_drew ?_ | refine blk_alloc ?_ _)); refine blk_far ?_ NB181_182.out _; (with_reducible repeat (first | refine blk_drewN ?_ _ | refine blk_drew ?_ | refine blk_alloc ?_ _)); refine blk_put (cs := #[.int .i64 t177, .int .i64 0]) ?_ 1 _ rfl; (with_reducible repeat (first | refine blk_drewN ?_ _ | refine blk_drew ?_ | refine blk_alloc ?_ _)); refine blk_put (cs := #[.int .i64 0, .int .i64 0]) ?_ 0 _ rfl; (with_reducible repeat (first | refine blk_drewN ?_ _ | refine blk_drew ?_ | refine blk_alloc ?_ _)); exact BK181.out)) : gb183 ≠ gb181)); have n11_ := a_ ((by rw [hg]; exact Nat.ne_of_lt (blk_lt (g := gb182) (o := .cells #[.int .i64 t179, .int .i64 t180] 35 (0, 0)) (by (with_reducible repeat (first | refine blk_drewN ?_ _ | refine blk_drew ?_ | refine blk_alloc ?_ _)); refine blk_put (cs := #[.int .i64 t179, .int .i64 0]) ?_ 1 _ rfl; (with_reducible repeat (first | refine blk_drewN ?_ _ | refine blk_drew ?_ | refine blk_alloc ?_ _)); refine blk_put (cs := #[.int .i64 0, .int .i64 0]) ?_ 0 _ rfl; (with_reducible repeat (first | refine blk_drewN ?_ _ | refine blk_drew ?_ | refine blk_alloc ?_ _)); refine blk_far ?_ NB182_181.out _; (with_reducible repeat (first | refine blk_drewN ?_ _ | refine blk_drew ?_ | refine blk_alloc ?_ _)); refine blk_far ?_ NB182_181.out _; (with_reducible repeat (first | refine blk_drewN ?_ _ | refine blk_drew ?_ | refine blk_alloc ?_ _)); exact BK182.out)) : gb182 ≠ gb183)); have n12_ := a_ ((by rw [hg]; exact Nat.ne_of_gt (blk_lt (g := gb182) (o := .cells #[.int .i64 t179, .int .i64 t180] 35 (0, 0)) (by (with_reducible repeat (first | refine blk_drewN ?_ _ | refine blk_drew ?_ | refine blk_alloc ?_ _)); refine blk_put (cs := #[.int .i64 t179, .int .i64 0]) ?_ 1 _ rfl; (with_reducible repeat (first | refine blk_drewN ?_ _ | refine blk_drew ?_ | refine blk_alloc ?_ _)); refine blk_put (cs := #[.int .i64 0, .int .i64 0]) ?_ 0 _ rfl; (with_reducible repeat (first | refine blk_drewN ?_ _ | refine blk_drew ?_ | refine blk_alloc ?_ _)); refine blk_far ?_ NB182_181.out _; (with_reducible repeat (first | refine blk_drewN ?_ _ | refine blk_drew ?_ | refine blk_alloc ?_ _)); refine blk_far ?_ NB182_181.out _; (with_reducible repeat (first | refine blk_drewN ?_ _ | refine blk_drew ?_ | refine blk_alloc ?_ _)); exact BK182.out)) : gb183 ≠ gb182)); clear BK176; clear BK181; clear BK182; clear HB; have BK176 := n0_; have BK181 := n1_; have BK182 := n2_; have HB := n3_; have BK183 := n4_; have GW183 := n5_; have GE183 := n6_; have NB176_183 := n7_; have NB183_176 := n8_; have NB181_183 := n9_; have NB183_181 := n10_; have NB182_183 := n11_; have NB183_182 := n12_; clear n0_ n1_ n2_ n3_ n4_ n5_ n6_ n7_ n8_ n9_ n10_ n11_ n12_; clear hb hbox hg; have hnb42 := NB181_183.out; have hnc42 := NB183_181.out; have hcz43_0 : w41.cell? ⟨gb181, 0, none⟩ = some (.int .i64 t177) := (blk_cell BK181.out 0).trans rfl; have hcz43_1 : w41.cell? ⟨gb181, 1, none⟩ = some (.int .i64 t178) := (blk_cell BK181.out 1).trans rfl; have hfz43_0 := blk_frozen BK181.out 0; have hfz43_1 := blk_frozen BK181.out 1; have hnb44 := NB182_183.out; have hnc44 := NB183_182.out; have hcz45_0 : w41.cell? ⟨gb182, 0, none⟩ = some (.int .i64 t179) := (blk_cell BK182.out 0).trans rfl; have hcz45_1 : w41.cell? ⟨gb182, 1, none⟩ = some (.int .i64 t180) := (blk_cell BK182.out 1).trans rfl; have hfz45_0 := blk_frozen BK182.out 0; have hfz45_1 := blk_frozen BK182.out 1; have hnb46 := NB183_176.out; have hnc46 := NB176_183.out; have hcz47_0 : w41.cell? ⟨gb183, 0, none⟩ = some (.int .i64 0) := (blk_cell BK183.out 0).trans rfl; have hcz47_1 : w41.cell? ⟨gb183, 1, none⟩ = some (.int .i64 0) := (blk_cell BK183.out 1).trans rfl; have hfz47_0 := blk_frozen BK183.out 0; have hfz47_1 := blk_frozen BK183.out 1; have hcz48_0 : w41.cell? ⟨gb176, 0, none⟩ = some (.int .i64 0) := (blk_cell BK176.out 0).trans rfl; have hcz48_1 : w41.cell? ⟨gb176, 1, none⟩ = some (.int .i64 0) := (blk_cell BK176.out 1).trans rfl; have hfz48_0 := blk_frozen BK176.out 0; have hfz48_1 := blk_frozen BK176.out 1))
  refine bodyPost_ret (results_cell_row rfl _ _ gb176 35 #[.int .i64 ji29, .int .i64 ji30] (0, 0) _ rfl (by (with_reducible repeat (first | refine blk_drewN ?_ _ | refine blk_drew ?_ | refine blk_alloc ?_ _)); refine blk_put (cs := #[.int .i64 ji29, .int .i64 0]) ?_ 1 _ rfl; (with_reducible repeat (first | refine blk_drewN ?_ _ | refine blk_drew ?_ | refine blk_alloc ?_ _)); refine blk_put (cs := #[.int .i64 0, .int .i64 0]) ?_ 0 _ rfl; (with_reducible repeat (first | refine blk_drewN ?_ _ | refine blk_drew ?_ | refine blk_alloc ?_ _)); exact BK176.out) Tryz.underlying35 rfl (by kernel_rfl)) rfl ?_
  exact ⟨by first | rfl | (simp [errW_none, errW_some] <;> rfl) | (simp only [← hji29, ← hji30]; first | rfl | (simp [errW_none, errW_some] <;> rfl)) | (simp [*, errW_none, errW_some] <;> rfl), bl_⟩

/-! ### refill_Between: function 14 -/
def refill_Between.f (k : Nat) (l0 : List (S37)) (a1 : Int) (a2 : Int) : Option (Int × Int × Int) := (refill_event.f k l0 (-1) (([a1, a2] : List Int))).bind fun t190 => (if t190 = 0 then (if a1 ≥ a2 then (some (0, 0, 1)) else ((refill_possible.f l0).bind fun t191 => (if t191 = true then ((refill_between.f k l0 a1 a2).bind fun bt192 => (some (bt192.1, bt192.2, 0))) else (some (0, 0, 31))))) else (some (0, 0, t190)))
theorem refill_Between.mono : ∀ a0 a1 a2 k, LeO (refill_Between.f k a0 a1 a2) (refill_Between.f (k + 1) a0 a1 a2) := by
 intro a0 a1 a2 k
 unfold refill_Between.f
 repeat' first
   | (with_reducible exact refill_between.mono _ _ _ _)
   | (with_reducible exact refill_event.mono _ _ _ _)
   | (with_reducible exact LeO.refl _)
   | (with_reducible exact LeO.none _)
   | (with_reducible refine LeO.ite ?_ ?_)
   | (with_reducible refine LeO.bind ?_ (fun _ => ?_))
   | exact refill_between.mono _ _ _ _
   | exact refill_event.mono _ _ _ _
   | exact LeO.none _
   | refine LeO.ite ?_ ?_
   | refine LeO.bind ?_ (fun _ => ?_)
set_option maxHeartbeats 8000000 in
set_option maxRecDepth 100000 in
theorem refill_Between.calls (k : Nat) (A0 : Option Addr) (c0 : Nat) (l0 : List (S37)) (a1 : Int) (a2 : Int) (r1 : Int) (r2 : Int) (r3 : Int) (w : World) (hr0 : Kd.C k37 w A0 l0.length l0) (hc0 : l0.length ≤ c0) (h : refill_Between.f k l0 a1 a2 = some (r1, r2, r3)) :
  Calls Tryz.prog 14 #[.slice A0 l0.length c0, .int .i64 a1, .int .i64 a2] w fun e w' => e = .returned (.tuple #[.agg #[.int .i64 r1, .int .i64 r2], .int .i64 r3]) ∧ Below w.heap.size w w' := by
 have hu35 := Tryz.underlying35
 have HR0 := a_ hr0
 have HC0 := a_ hc0
 clear hr0 hc0
 have HB := a_ (Below.refl w.heap.size w)
 have H : ((refill_event.f k l0 (-1) (([a1, a2] : List Int))).bind fun t190 => (if t190 = 0 then (if a1 ≥ a2 then (some (0, 0, 1)) else ((refill_possible.f l0).bind fun t191 => (if t191 = true then ((refill_between.f k l0 a1 a2).bind fun bt192 => (some (bt192.1, bt192.2, 0))) else (some (0, 0, 31))))) else (some (0, 0, t190)))) = some (r1, r2, r3) := h
 clear h
 obtain ⟨y187, hy187⟩ : ∃ y_ : List Int, y_ = (([a1, a2] : List Int)) := ⟨_, rfl⟩
 replace H : ((refill_event.f k l0 (-1) y187).bind fun t190 => (if t190 = 0 then (if a1 ≥ a2 then (some (0, 0, 1)) else ((refill_possible.f l0).bind fun t191 => (if t191 = true then ((refill_between.f k l0 a1 a2).bind fun bt192 => (some (bt192.1, bt192.2, 0))) else (some (0, 0, 31))))) else (some (0, 0, t190)))) = some (r1, r2, r3) := by first | (rw [hy187]; with_reducible exact H) | (have H2_ := (Option.bind_some _ _).symm.trans H; rw [hy187]; with_reducible exact H2_) | (have H2_ := (Option.bind_some _ _).symm.trans H; with_reducible exact H2_) | with_reducible exact H | (rw [hy187]; exact H) | exact H
 have Ny187 := a_ hy187
 clear hy187
 replace H := Option.bind_eq_some_iff.mp H
 obtain ⟨t190, A40, H⟩ := H
 replace H : (if t190 = 0 then (if a1 ≥ a2 then (some (0, 0, 1)) else ((refill_possible.f l0).bind fun t191 => (if t191 = true then ((refill_between.f k l0 a1 a2).bind fun bt192 => (some (bt192.1, bt192.2, 0))) else (some (0, 0, 31))))) else (some (0, 0, t190))) = some (r1, r2, r3) := H
 have A4 := a_ A40
 clear A40
 by_cases c5 : t190 = 0
 ·rw [if_pos c5] at H
  have c5b0 : (t190 == 0) = true := beq_iff_eq.mpr c5
  have c5b1 : (t190 != 0) = false := bne_eq_false_iff_eq.mpr c5
  clear c5
  by_cases c6 : a1 ≥ a2
  ·rw [if_pos c6] at H
   have c6b0 : decide (a2 ≤ a1) = true := decide_eq_true c6
   clear c6
   simp only [Option.some.injEq, Prod.mk.injEq] at H
   obtain ⟨rfl, rfl, rfl⟩ := H
   go_enter Tryz.func14, Tryz.ntmps14
   go_wp2_with (first | ((with_reducible refine gate_dst (N := 6) rfl ?_); refine box_event ?hg (N := 6) ?hd (cs := #[.int .i64 0, .int .i64 0]) (t := 35) ?hr ?_; (case hd => rfl); (case hg => rfl); (case hr => first | (go_simp; done) | (go_simp; rfl)); intro gb186 hg w7 hbox hb; have n0_ := a_ (below_step bl_ hb); have n1_ := a_ (hbox); have n2_ := a_ ((bz_ (w := w) hg)); have n3_ := a_ ((bz_ (w := w) hg)); clear HB; have HB := n0_; have BK186 := n1_; have GW186 := n2_; have GE186 := n3_; clear n0_ n1_ n2_ n3_; clear hb hbox hg) | ((with_reducible refine gate_dst (N := 12) rfl ?_); refine Kd.R_lit (Kd.int .i64) _ 3 ?hg (N := 12) ?hd (xs := ([a1, a2] : List Int)) (inner := [.int .i64 a1, .int .i64 a2]) (ok := fun _ => True) (okp := fun _ => True) ?hr ?hp (fun _ hk => hk) trivial (Below.refl _ _) (Nat.le_refl _) (by simp) ?_; (case hd => rfl); (case hg => rfl); (case hr => first | (go_simp; done) | (go_simp; rfl)); (case hp => exact (Reps.one (show Kd.M (Kd.int .i64) _ _ _ a1 [.int .i64 a1] from rfl) (Reps.one (show Kd.M (Kd.int .i64) _ _ _ a2 [.int .i64 a2] from rfl) (Reps.none _ _)))); intro v188 w8 ho9 hb hg_ hnew_; clear hg_ hnew_; (first | rw [← Ny187.out] at ho9 | (simp only [Int.reduceToNat] at ho9; rw [← Ny187.out] at ho9)); have n0_ := a_ (Kd.R_lower ho9 (below_size bl_)); have n1_ := a_ (bb_ BK186.out hb); have n2_ := a_ (below_step bl_ hb); clear BK186; clear HB; have HO189 := n0_; have BK186 := n1_; have HB := n2_; clear n0_ n1_ n2_; clear hb ho9; obtain ⟨Ao10, co10, eo10⟩ := Kd.R_slice HO189.out; subst eo10) | ((with_reducible refine gate_callee (f := 40) rfl ?_); refine goesL_ (some 13) rfl rfl Tryz.func40 (by kernel_rfl) rfl #[.slice A0 l0.length c0, .int .i64 (-1), .slice Ao10 y187.length co10] rfl tm_ ?_; (with_reducible refine (refill_event.calls k _ _ l0 (-1) _ _ y187 t190 _ ?side1 ?side2 ?side3 ?side4 A4.out).mono ?_); (case side1 => exact cl_ (Kd.C_below HR0.out HB.out)); (case side2 => exact HC0.out); (case side3 => exact cl_ ((Kd.R_reads' HO189.out).2.2)); (case side4 => exact (Kd.R_reads' HO189.out).2.1); rintro e w11 ⟨rfl, hb⟩; refine ⟨_, rfl, ?_⟩; have n0_ := a_ (Kd.R_below (rl_ HO189.out) hb); have n1_ := a_ (bb_ BK186.out hb); have n2_ := a_ (below_step bl_ hb); clear HO189; clear BK186; clear HB; have HO189 := n0_; have BK186 := n1_; have HB := n2_; clear n0_ n1_ n2_; (try clear hb); (try clear hb2); (try clear hk); (try clear hi); have hcz12_0 : w11.cell? ⟨gb186, 0, none⟩ = some (.int .i64 0) := (blk_cell BK186.out 0).trans rfl; have hcz12_1 : w11.cell? ⟨gb186, 1, none⟩ = some (.int .i64 0) := (blk_cell BK186.out 1).trans rfl; have hfz12_0 := blk_frozen BK186.out 0; have hfz12_1 := blk_frozen BK186.out 1))
   refine bodyPost_ret (results_ct rfl _ _ gb186 35 #[.int .i64 0, .int .i64 0] (0, 0) _ rfl (by (with_reducible repeat (first | refine blk_drewN ?_ _ | refine blk_drew ?_ | refine blk_alloc ?_ _)); refine blk_put (cs := #[.int .i64 0, .int .i64 0]) ?_ 1 _ rfl; (with_reducible repeat (first | refine blk_drewN ?_ _ | refine blk_drew ?_ | refine blk_alloc ?_ _)); refine blk_put (cs := #[.int .i64 0, .int .i64 0]) ?_ 0 _ rfl; (with_reducible repeat (first | refine blk_drewN ?_ _ | refine blk_drew ?_ | refine blk_alloc ?_ _)); exact BK186.out) Tryz.underlying35 rfl (by kernel_rfl)) rfl ?_
   exact ⟨by first | rfl | (simp [errW_none, errW_some] <;> rfl) | (simp [*, errW_none, errW_some] <;> rfl), bl_⟩
  ·rw [if_neg c6] at H
   have c6b0 : decide (a2 ≤ a1) = false := decide_eq_false c6
   clear c6
   replace H := Option.bind_eq_some_iff.mp H
   obtain ⟨t191, A130, H⟩ := H
   replace H : (if t191 = true then ((refill_between.f k l0 a1 a2).bind fun bt192 => (some (bt192.1, bt192.2, 0))) else (some (0, 0, 31))) = some (r1, r2, r3) := H
   have A13 := a_ A130
   clear A130
   by_cases c14 : t191 = true
   ·subst c14
    have H1 : ((refill_between.f k l0 a1 a2).bind fun bt192 => (some (bt192.1, bt192.2, 0))) = some (r1, r2, r3) := by rw [if_pos rfl] at H; exact H
    clear H
    have H := H1
    clear H1
    replace H := Option.bind_eq_some_iff.mp H
    obtain ⟨⟨t192, t193⟩, A150, H⟩ := H
    replace H : (some (t192, t193, 0)) = some (r1, r2, r3) := H
    have A15 := a_ A150
    clear A150
    simp only [Option.some.injEq, Prod.mk.injEq] at H
    obtain ⟨rfl, rfl, rfl⟩ := H
    go_enter Tryz.func14, Tryz.ntmps14
    go_wp2_with (first | ((with_reducible refine gate_dst (N := 6) rfl ?_); refine box_event ?hg (N := 6) ?hd (cs := #[.int .i64 0, .int .i64 0]) (t := 35) ?hr ?_; (case hd => rfl); (case hg => rfl); (case hr => first | (go_simp; done) | (go_simp; rfl)); intro gb186 hg w16 hbox hb; have n0_ := a_ (below_step bl_ hb); have n1_ := a_ (hbox); have n2_ := a_ ((bz_ (w := w) hg)); have n3_ := a_ ((bz_ (w := w) hg)); clear HB; have HB := n0_; have BK186 := n1_; have GW186 := n2_; have GE186 := n3_; clear n0_ n1_ n2_ n3_; clear hb hbox hg) | ((with_reducible refine gate_dst (N := 12) rfl ?_); refine Kd.R_lit (Kd.int .i64) _ 3 ?hg (N := 12) ?hd (xs := ([a1, a2] : List Int)) (inner := [.int .i64 a1, .int .i64 a2]) (ok := fun _ => True) (okp := fun _ => True) ?hr ?hp (fun _ hk => hk) trivial (Below.refl _ _) (Nat.le_refl _) (by simp) ?_; (case hd => rfl); (case hg => rfl); (case hr => first | (go_simp; done) | (go_simp; rfl)); (case hp => exact (Reps.one (show Kd.M (Kd.int .i64) _ _ _ a1 [.int .i64 a1] from rfl) (Reps.one (show Kd.M (Kd.int .i64) _ _ _ a2 [.int .i64 a2] from rfl) (Reps.none _ _)))); intro v188 w17 ho18 hb hg_ hnew_; clear hg_ hnew_; (first | rw [← Ny187.out] at ho18 | (simp only [Int.reduceToNat] at ho18; rw [← Ny187.out] at ho18)); have n0_ := a_ (Kd.R_lower ho18 (below_size bl_)); have n1_ := a_ (bb_ BK186.out hb); have n2_ := a_ (below_step bl_ hb); clear BK186; clear HB; have HO189 := n0_; have BK186 := n1_; have HB := n2_; clear n0_ n1_ n2_; clear hb ho18; obtain ⟨Ao19, co19, eo19⟩ := Kd.R_slice HO189.out; subst eo19) | ((with_reducible refine gate_callee (f := 40) rfl ?_); refine goesL_ (some 13) rfl rfl Tryz.func40 (by kernel_rfl) rfl #[.slice A0 l0.length c0, .int .i64 (-1), .slice Ao19 y187.length co19] rfl tm_ ?_; (with_reducible refine (refill_event.calls k _ _ l0 (-1) _ _ y187 t190 _ ?side1 ?side2 ?side3 ?side4 A4.out).mono ?_); (case side1 => exact cl_ (Kd.C_below HR0.out HB.out)); (case side2 => exact HC0.out); (case side3 => exact cl_ ((Kd.R_reads' HO189.out).2.2)); (case side4 => exact (Kd.R_reads' HO189.out).2.1); rintro e w20 ⟨rfl, hb⟩; refine ⟨_, rfl, ?_⟩; have n0_ := a_ (Kd.R_below (rl_ HO189.out) hb); have n1_ := a_ (bb_ BK186.out hb); have n2_ := a_ (below_step bl_ hb); clear HO189; clear BK186; clear HB; have HO189 := n0_; have BK186 := n1_; have HB := n2_; clear n0_ n1_ n2_; (try clear hb); (try clear hb2); (try clear hk); (try clear hi)) | ((with_reducible refine gate_callee (f := 41) rfl ?_); refine goesL_ (some 23) rfl rfl Tryz.func41 (by kernel_rfl) rfl #[.slice A0 l0.length c0] rfl tm_ ?_; (with_reducible refine (refill_possible.calls _ _ l0 true _ ?side1 ?side2 A13.out).mono ?_); (case side1 => exact cl_ (Kd.C_below HR0.out HB.out)); (case side2 => exact HC0.out); rintro e w21 ⟨rfl, hb⟩; refine ⟨_, rfl, ?_⟩; have n0_ := a_ (Kd.R_below (rl_ HO189.out) hb); have n1_ := a_ (bb_ BK186.out hb); have n2_ := a_ (below_step bl_ hb); clear HO189; clear BK186; clear HB; have HO189 := n0_; have BK186 := n1_; have HB := n2_; clear n0_ n1_ n2_; (try clear hb); (try clear hb2); (try clear hk); (try clear hi)) | ((with_reducible refine gate_callee (f := 42) rfl ?_); refine goesL_ (some 29) rfl rfl Tryz.func42 (by kernel_rfl) rfl #[.slice A0 l0.length c0, .int .i64 a1, .int .i64 a2] rfl tm_ ?_; (with_reducible refine (refill_between.calls k _ _ l0 a1 a2 t192 t193 _ ?side1 ?side2 A15.out).mono ?_); (case side1 => exact cl_ (Kd.C_below HR0.out HB.out)); (case side2 => exact HC0.out); rintro e w22 ⟨rfl, hb⟩; refine ⟨_, rfl, ?_⟩; have n0_ := a_ (Kd.R_below (rl_ HO189.out) hb); have n1_ := a_ (bb_ BK186.out hb); have n2_ := a_ (below_step bl_ hb); clear HO189; clear BK186; clear HB; have HO189 := n0_; have BK186 := n1_; have HB := n2_; clear n0_ n1_ n2_; (try clear hb); (try clear hb2); (try clear hk); (try clear hi); have hcz23_0 : w22.cell? ⟨gb186, 0, none⟩ = some (.int .i64 0) := (blk_cell BK186.out 0).trans rfl; have hcz23_1 : w22.cell? ⟨gb186, 1, none⟩ = some (.int .i64 0) := (blk_cell BK186.out 1).trans rfl; have hfz23_0 := blk_frozen BK186.out 0; have hfz23_1 := blk_frozen BK186.out 1))
    refine bodyPost_ret (results_ct rfl _ _ gb186 35 #[.int .i64 t192, .int .i64 t193] (0, 0) _ rfl (by (with_reducible repeat (first | refine blk_drewN ?_ _ | refine blk_drew ?_ | refine blk_alloc ?_ _)); refine blk_put (cs := #[.int .i64 t192, .int .i64 0]) ?_ 1 _ rfl; (with_reducible repeat (first | refine blk_drewN ?_ _ | refine blk_drew ?_ | refine blk_alloc ?_ _)); refine blk_put (cs := #[.int .i64 0, .int .i64 0]) ?_ 0 _ rfl; (with_reducible repeat (first | refine blk_drewN ?_ _ | refine blk_drew ?_ | refine blk_alloc ?_ _)); exact BK186.out) Tryz.underlying35 rfl (by kernel_rfl)) rfl ?_
    exact ⟨by first | rfl | (simp [errW_none, errW_some] <;> rfl) | (simp [*, errW_none, errW_some] <;> rfl), bl_⟩
   ·replace c14 := Bool.eq_false_iff.mpr c14
    subst c14
    have H1 : (some (0, 0, 31)) = some (r1, r2, r3) := by rw [if_neg (show ¬ (false = true) by decide)] at H; exact H
    clear H
    have H := H1
    clear H1
    simp only [Option.some.injEq, Prod.mk.injEq] at H
    obtain ⟨rfl, rfl, rfl⟩ := H
    go_enter Tryz.func14, Tryz.ntmps14
    go_wp2_with (first | ((with_reducible refine gate_dst (N := 6) rfl ?_); refine box_event ?hg (N := 6) ?hd (cs := #[.int .i64 0, .int .i64 0]) (t := 35) ?hr ?_; (case hd => rfl); (case hg => rfl); (case hr => first | (go_simp; done) | (go_simp; rfl)); intro gb186 hg w24 hbox hb; have n0_ := a_ (below_step bl_ hb); have n1_ := a_ (hbox); have n2_ := a_ ((bz_ (w := w) hg)); have n3_ := a_ ((bz_ (w := w) hg)); clear HB; have HB := n0_; have BK186 := n1_; have GW186 := n2_; have GE186 := n3_; clear n0_ n1_ n2_ n3_; clear hb hbox hg) | ((with_reducible refine gate_dst (N := 12) rfl ?_); refine Kd.R_lit (Kd.int .i64) _ 3 ?hg (N := 12) ?hd (xs := ([a1, a2] : List Int)) (inner := [.int .i64 a1, .int .i64 a2]) (ok := fun _ => True) (okp := fun _ => True) ?hr ?hp (fun _ hk => hk) trivial (Below.refl _ _) (Nat.le_refl _) (by simp) ?_; (case hd => rfl); (case hg => rfl); (case hr => first | (go_simp; done) | (go_simp; rfl)); (case hp => exact (Reps.one (show Kd.M (Kd.int .i64) _ _ _ a1 [.int .i64 a1] from rfl) (Reps.one (show Kd.M (Kd.int .i64) _ _ _ a2 [.int .i64 a2] from rfl) (Reps.none _ _)))); intro v188 w25 ho26 hb hg_ hnew_; clear hg_ hnew_; (first | rw [← Ny187.out] at ho26 | (simp only [Int.reduceToNat] at ho26; rw [← Ny187.out] at ho26)); have n0_ := a_ (Kd.R_lower ho26 (below_size bl_)); have n1_ := a_ (bb_ BK186.out hb); have n2_ := a_ (below_step bl_ hb); clear BK186; clear HB; have HO189 := n0_; have BK186 := n1_; have HB := n2_; clear n0_ n1_ n2_; clear hb ho26; obtain ⟨Ao27, co27, eo27⟩ := Kd.R_slice HO189.out; subst eo27) | ((with_reducible refine gate_callee (f := 40) rfl ?_); refine goesL_ (some 13) rfl rfl Tryz.func40 (by kernel_rfl) rfl #[.slice A0 l0.length c0, .int .i64 (-1), .slice Ao27 y187.length co27] rfl tm_ ?_; (with_reducible refine (refill_event.calls k _ _ l0 (-1) _ _ y187 t190 _ ?side1 ?side2 ?side3 ?side4 A4.out).mono ?_); (case side1 => exact cl_ (Kd.C_below HR0.out HB.out)); (case side2 => exact HC0.out); (case side3 => exact cl_ ((Kd.R_reads' HO189.out).2.2)); (case side4 => exact (Kd.R_reads' HO189.out).2.1); rintro e w28 ⟨rfl, hb⟩; refine ⟨_, rfl, ?_⟩; have n0_ := a_ (Kd.R_below (rl_ HO189.out) hb); have n1_ := a_ (bb_ BK186.out hb); have n2_ := a_ (below_step bl_ hb); clear HO189; clear BK186; clear HB; have HO189 := n0_; have BK186 := n1_; have HB := n2_; clear n0_ n1_ n2_; (try clear hb); (try clear hb2); (try clear hk); (try clear hi)) | ((with_reducible refine gate_callee (f := 41) rfl ?_); refine goesL_ (some 23) rfl rfl Tryz.func41 (by kernel_rfl) rfl #[.slice A0 l0.length c0] rfl tm_ ?_; (with_reducible refine (refill_possible.calls _ _ l0 false _ ?side1 ?side2 A13.out).mono ?_); (case side1 => exact cl_ (Kd.C_below HR0.out HB.out)); (case side2 => exact HC0.out); rintro e w29 ⟨rfl, hb⟩; refine ⟨_, rfl, ?_⟩; have n0_ := a_ (Kd.R_below (rl_ HO189.out) hb); have n1_ := a_ (bb_ BK186.out hb); have n2_ := a_ (below_step bl_ hb); clear HO189; clear BK186; clear HB; have HO189 := n0_; have BK186 := n1_; have HB := n2_; clear n0_ n1_ n2_; (try clear hb); (try clear hb2); (try clear hk); (try clear hi); have hcz30_0 : w29.cell? ⟨gb186, 0, none⟩ = some (.int .i64 0) := (blk_cell BK186.out 0).trans rfl; have hcz30_1 : w29.cell? ⟨gb186, 1, none⟩ = some (.int .i64 0) := (blk_cell BK186.out 1).trans rfl; have hfz30_0 := blk_frozen BK186.out 0; have hfz30_1 := blk_frozen BK186.out 1))
    refine bodyPost_ret (results_ct rfl _ _ gb186 35 #[.int .i64 0, .int .i64 0] (0, 0) _ rfl (by (with_reducible repeat (first | refine blk_drewN ?_ _ | refine blk_drew ?_ | refine blk_alloc ?_ _)); refine blk_put (cs := #[.int .i64 0, .int .i64 0]) ?_ 1 _ rfl; (with_reducible repeat (first | refine blk_drewN ?_ _ | refine blk_drew ?_ | refine blk_alloc ?_ _)); refine blk_put (cs := #[.int .i64 0, .int .i64 0]) ?_ 0 _ rfl; (with_reducible repeat (first | refine blk_drewN ?_ _ | refine blk_drew ?_ | refine blk_alloc ?_ _)); exact BK186.out) Tryz.underlying35 rfl (by kernel_rfl)) rfl ?_
    exact ⟨by first | rfl | (simp [errW_none, errW_some] <;> rfl) | (simp [*, errW_none, errW_some] <;> rfl), bl_⟩
 ·rw [if_neg c5] at H
  have c5b0 : (t190 == 0) = false := beq_eq_false_iff_ne.mpr c5
  have c5b1 : (t190 != 0) = true := bne_iff_ne.mpr c5
  simp only [Option.some.injEq, Prod.mk.injEq] at H
  obtain ⟨rfl, rfl, rfl⟩ := H
  go_enter Tryz.func14, Tryz.ntmps14
  go_wp2_with (first | ((with_reducible refine gate_dst (N := 6) rfl ?_); refine box_event ?hg (N := 6) ?hd (cs := #[.int .i64 0, .int .i64 0]) (t := 35) ?hr ?_; (case hd => rfl); (case hg => rfl); (case hr => first | (go_simp; done) | (go_simp; rfl)); intro gb186 hg w31 hbox hb; have n0_ := a_ (below_step bl_ hb); have n1_ := a_ (hbox); have n2_ := a_ ((bz_ (w := w) hg)); have n3_ := a_ ((bz_ (w := w) hg)); clear HB; have HB := n0_; have BK186 := n1_; have GW186 := n2_; have GE186 := n3_; clear n0_ n1_ n2_ n3_; clear hb hbox hg) | ((with_reducible refine gate_dst (N := 12) rfl ?_); refine Kd.R_lit (Kd.int .i64) _ 3 ?hg (N := 12) ?hd (xs := ([a1, a2] : List Int)) (inner := [.int .i64 a1, .int .i64 a2]) (ok := fun _ => True) (okp := fun _ => True) ?hr ?hp (fun _ hk => hk) trivial (Below.refl _ _) (Nat.le_refl _) (by simp) ?_; (case hd => rfl); (case hg => rfl); (case hr => first | (go_simp; done) | (go_simp; rfl)); (case hp => exact (Reps.one (show Kd.M (Kd.int .i64) _ _ _ a1 [.int .i64 a1] from rfl) (Reps.one (show Kd.M (Kd.int .i64) _ _ _ a2 [.int .i64 a2] from rfl) (Reps.none _ _)))); intro v188 w32 ho33 hb hg_ hnew_; clear hg_ hnew_; (first | rw [← Ny187.out] at ho33 | (simp only [Int.reduceToNat] at ho33; rw [← Ny187.out] at ho33)); have n0_ := a_ (Kd.R_lower ho33 (below_size bl_)); have n1_ := a_ (bb_ BK186.out hb); have n2_ := a_ (below_step bl_ hb); clear BK186; clear HB; have HO189 := n0_; have BK186 := n1_; have HB := n2_; clear n0_ n1_ n2_; clear hb ho33; obtain ⟨Ao34, co34, eo34⟩ := Kd.R_slice HO189.out; subst eo34) | ((with_reducible refine gate_callee (f := 40) rfl ?_); refine goesL_ (some 13) rfl rfl Tryz.func40 (by kernel_rfl) rfl #[.slice A0 l0.length c0, .int .i64 (-1), .slice Ao34 y187.length co34] rfl tm_ ?_; (with_reducible refine (refill_event.calls k _ _ l0 (-1) _ _ y187 t190 _ ?side1 ?side2 ?side3 ?side4 A4.out).mono ?_); (case side1 => exact cl_ (Kd.C_below HR0.out HB.out)); (case side2 => exact HC0.out); (case side3 => exact cl_ ((Kd.R_reads' HO189.out).2.2)); (case side4 => exact (Kd.R_reads' HO189.out).2.1); rintro e w35 ⟨rfl, hb⟩; refine ⟨_, rfl, ?_⟩; have n0_ := a_ (Kd.R_below (rl_ HO189.out) hb); have n1_ := a_ (bb_ BK186.out hb); have n2_ := a_ (below_step bl_ hb); clear HO189; clear BK186; clear HB; have HO189 := n0_; have BK186 := n1_; have HB := n2_; clear n0_ n1_ n2_; (try clear hb); (try clear hb2); (try clear hk); (try clear hi); have hcz36_0 : w35.cell? ⟨gb186, 0, none⟩ = some (.int .i64 0) := (blk_cell BK186.out 0).trans rfl; have hcz36_1 : w35.cell? ⟨gb186, 1, none⟩ = some (.int .i64 0) := (blk_cell BK186.out 1).trans rfl; have hfz36_0 := blk_frozen BK186.out 0; have hfz36_1 := blk_frozen BK186.out 1))
  refine bodyPost_ret (results_ct rfl _ _ gb186 35 #[.int .i64 0, .int .i64 0] (0, 0) _ rfl (by (with_reducible repeat (first | refine blk_drewN ?_ _ | refine blk_drew ?_ | refine blk_alloc ?_ _)); refine blk_put (cs := #[.int .i64 0, .int .i64 0]) ?_ 1 _ rfl; (with_reducible repeat (first | refine blk_drewN ?_ _ | refine blk_drew ?_ | refine blk_alloc ?_ _)); refine blk_put (cs := #[.int .i64 0, .int .i64 0]) ?_ 0 _ rfl; (with_reducible repeat (first | refine blk_drewN ?_ _ | refine blk_drew ?_ | refine blk_alloc ?_ _)); exact BK186.out) Tryz.underlying35 rfl (by kernel_rfl)) rfl ?_
  exact ⟨by first | rfl | (simp [errW_none, errW_some] <;> rfl) | (simp [*, errW_none, errW_some] <;> rfl), bl_⟩

/-! ### refill_Clash: function 15 -/
def refill_Clash.f (k : Nat) (l0 : List (S37)) : Option (Int × Int × Bool × Int) := (refill_Check.f k l0).bind fun t194 => (if t194 = 0 then ((refill_clash.f l0).bind fun bt195 => (some (bt195.1, bt195.2.1, bt195.2.2, 0))) else (some (0, 0, false, t194)))
theorem refill_Clash.mono : ∀ a0 k, LeO (refill_Clash.f k a0) (refill_Clash.f (k + 1) a0) := by
 intro a0 k
 unfold refill_Clash.f
 repeat' first
   | (with_reducible exact refill_Check.mono _ _)
   | (with_reducible exact LeO.refl _)
   | (with_reducible exact LeO.none _)
   | (with_reducible refine LeO.ite ?_ ?_)
   | (with_reducible refine LeO.bind ?_ (fun _ => ?_))
   | exact refill_Check.mono _ _
   | exact LeO.none _
   | refine LeO.ite ?_ ?_
   | refine LeO.bind ?_ (fun _ => ?_)
set_option maxHeartbeats 8000000 in
set_option maxRecDepth 100000 in
theorem refill_Clash.calls (k : Nat) (A0 : Option Addr) (c0 : Nat) (l0 : List (S37)) (r1 : Int) (r2 : Int) (r3 : Bool) (r4 : Int) (w : World) (hr0 : Kd.C k37 w A0 l0.length l0) (hc0 : l0.length ≤ c0) (h : refill_Clash.f k l0 = some (r1, r2, r3, r4)) :
  Calls Tryz.prog 15 #[.slice A0 l0.length c0] w fun e w' => e = .returned (.tuple #[.int .i64 r1, .int .i64 r2, .bool r3, .int .i64 r4]) ∧ Below w.heap.size w w' := by
 have HR0 := a_ hr0
 have HC0 := a_ hc0
 clear hr0 hc0
 have HB := a_ (Below.refl w.heap.size w)
 have H : ((refill_Check.f k l0).bind fun t194 => (if t194 = 0 then ((refill_clash.f l0).bind fun bt195 => (some (bt195.1, bt195.2.1, bt195.2.2, 0))) else (some (0, 0, false, t194)))) = some (r1, r2, r3, r4) := h
 clear h
 replace H := Option.bind_eq_some_iff.mp H
 obtain ⟨t194, A20, H⟩ := H
 replace H : (if t194 = 0 then ((refill_clash.f l0).bind fun bt195 => (some (bt195.1, bt195.2.1, bt195.2.2, 0))) else (some (0, 0, false, t194))) = some (r1, r2, r3, r4) := H
 have A2 := a_ A20
 clear A20
 by_cases c3 : t194 = 0
 ·rw [if_pos c3] at H
  have c3b0 : (t194 == 0) = true := beq_iff_eq.mpr c3
  have c3b1 : (t194 != 0) = false := bne_eq_false_iff_eq.mpr c3
  clear c3
  replace H := Option.bind_eq_some_iff.mp H
  obtain ⟨⟨t195, t196, t197⟩, A40, H⟩ := H
  replace H : (some (t195, t196, t197, 0)) = some (r1, r2, r3, r4) := H
  have A4 := a_ A40
  clear A40
  simp only [Option.some.injEq, Prod.mk.injEq] at H
  obtain ⟨rfl, rfl, rfl, rfl⟩ := H
  go_enter Tryz.func15, Tryz.ntmps15
  go_wp2_with (first | ((with_reducible refine gate_callee (f := 25) rfl ?_); refine goesL_ (some 11) rfl rfl Tryz.func25 (by kernel_rfl) rfl #[.slice A0 l0.length c0] rfl tm_ ?_; (with_reducible refine (refill_Check.calls k _ _ l0 t194 _ ?side1 ?side2 A2.out).mono ?_); (case side1 => exact cl_ HR0.out); (case side2 => exact HC0.out); rintro e w5 ⟨rfl, hb⟩; refine ⟨_, rfl, ?_⟩; have n0_ := a_ (below_step bl_ hb); clear HB; have HB := n0_; clear n0_; (try clear hb); (try clear hb2); (try clear hk); (try clear hi)) | ((with_reducible refine gate_callee (f := 43) rfl ?_); refine goesL_ (some 17) rfl rfl Tryz.func43 (by kernel_rfl) rfl #[.slice A0 l0.length c0] rfl tm_ ?_; (with_reducible refine (refill_clash.calls _ _ l0 t195 t196 t197 _ ?side1 ?side2 A4.out).mono ?_); (case side1 => exact cl_ (Kd.C_below HR0.out HB.out)); (case side2 => exact HC0.out); rintro e w6 ⟨rfl, hb⟩; refine ⟨_, rfl, ?_⟩; have n0_ := a_ (below_step bl_ hb); clear HB; have HB := n0_; clear n0_; (try clear hb); (try clear hb2); (try clear hk); (try clear hi)))
  refine bodyPost_ret (results_list (rs := [.tmp 2, .tmp 3, .tmp 4, .tmp 5]) rfl (by simp) (.tmp (.tmp (.tmp (.tmp .nil))))) rfl ?_
  exact ⟨by first | rfl | (simp [errW_none, errW_some] <;> rfl) | (simp [*, errW_none, errW_some] <;> rfl), bl_⟩
 ·rw [if_neg c3] at H
  have c3b0 : (t194 == 0) = false := beq_eq_false_iff_ne.mpr c3
  have c3b1 : (t194 != 0) = true := bne_iff_ne.mpr c3
  simp only [Option.some.injEq, Prod.mk.injEq] at H
  obtain ⟨rfl, rfl, rfl, rfl⟩ := H
  go_enter Tryz.func15, Tryz.ntmps15
  go_wp2_with (first | ((with_reducible refine gate_callee (f := 25) rfl ?_); refine goesL_ (some 11) rfl rfl Tryz.func25 (by kernel_rfl) rfl #[.slice A0 l0.length c0] rfl tm_ ?_; (with_reducible refine (refill_Check.calls k _ _ l0 t194 _ ?side1 ?side2 A2.out).mono ?_); (case side1 => exact cl_ HR0.out); (case side2 => exact HC0.out); rintro e w7 ⟨rfl, hb⟩; refine ⟨_, rfl, ?_⟩; have n0_ := a_ (below_step bl_ hb); clear HB; have HB := n0_; clear n0_; (try clear hb); (try clear hb2); (try clear hk); (try clear hi)))
  refine bodyPost_ret (results_list (rs := [.tmp 2, .tmp 3, .tmp 4, .tmp 5]) rfl (by simp) (.tmp (.tmp (.tmp (.tmp .nil))))) rfl ?_
  exact ⟨by first | rfl | (simp [errW_none, errW_some] <;> rfl) | (simp [*, errW_none, errW_some] <;> rfl), bl_⟩

/-! ### refill_Closed: function 17 -/
def refill_Closed.l0 : Nat → List (S37) → List (S37) → Int → Int → Option ((List (S37)) × Int)
 | 0, _, _, _, _ => none
 | k + 1, x0, x5, x13, x14 => if x14 < x13 then ((refill_between.f k x0 (wrap64 (x14 - 1)) x14).bind fun bt199 => ((refill_time.f x0 x14).bind fun bt201 => (if x5.length < 4398046511104 then (refill_Closed.l0 k x0 (x5 ++ [(⟨(⟨bt199.1, bt199.2⟩ : S35), (⟨bt201.1, bt201.2⟩ : S35)⟩ : S37)]) x13 (wrap64 (x14 + 1))) else (none)))) else (some (x5, 0))
def refill_Closed.f (k : Nat) (l0 : List (S37)) : Option ((List (S37)) × Int) := (refill_ready.f k l0 0 ([] : List Int)).bind fun t198 => (if t198 = 0 then (refill_Closed.l0 k l0 ([] : List (S37)) (l0.length : Int) 0) else (some (([] : List (S37)), t198)))
theorem refill_Closed.mono_l : ∀ k, (∀ y0 y1 y2 y3, LeO (refill_Closed.l0 k y0 y1 y2 y3) (refill_Closed.l0 (k + 1) y0 y1 y2 y3))
 | 0 => fun _ _ _ _ r h => by simp [refill_Closed.l0] at h
 | k + 1 => by
  have ih0 := refill_Closed.mono_l k
  ·intro y0 y1 y2 y3
   unfold refill_Closed.l0
   repeat' first
   | (with_reducible exact ih0 _ _ _ _)
   | (with_reducible exact refill_between.mono _ _ _ _)
   | (with_reducible exact refill_ready.mono _ _ _ _)
   | (with_reducible exact LeO.refl _)
   | (with_reducible exact LeO.none _)
   | (with_reducible refine LeO.ite ?_ ?_)
   | (with_reducible refine LeO.bind ?_ (fun _ => ?_))
   | exact ih0 _ _ _ _
   | exact refill_between.mono _ _ _ _
   | exact refill_ready.mono _ _ _ _
   | exact LeO.none _
   | refine LeO.ite ?_ ?_
   | refine LeO.bind ?_ (fun _ => ?_)
theorem refill_Closed.mono : ∀ a0 k, LeO (refill_Closed.f k a0) (refill_Closed.f (k + 1) a0) := by
 intro a0 k
 have ih0 := refill_Closed.mono_l k
 unfold refill_Closed.f
 repeat' first
   | (with_reducible exact ih0 _ _ _ _)
   | (with_reducible exact refill_between.mono _ _ _ _)
   | (with_reducible exact refill_ready.mono _ _ _ _)
   | (with_reducible exact LeO.refl _)
   | (with_reducible exact LeO.none _)
   | (with_reducible refine LeO.ite ?_ ?_)
   | (with_reducible refine LeO.bind ?_ (fun _ => ?_))
   | exact ih0 _ _ _ _
   | exact refill_between.mono _ _ _ _
   | exact refill_ready.mono _ _ _ _
   | exact LeO.none _
   | refine LeO.ite ?_ ?_
   | refine LeO.bind ?_ (fun _ => ?_)
set_option maxHeartbeats 8000000 in
set_option maxRecDepth 100000 in
theorem refill_Closed.calls (k : Nat) (A0 : Option Addr) (c0 : Nat) (l0 : List (S37)) (r1 : List (S37)) (r2 : Int) (w : World) (hr0 : Kd.C k37 w A0 l0.length l0) (hc0 : l0.length ≤ c0) (h : refill_Closed.f k l0 = some (r1, r2)) :
  Calls Tryz.prog 17 #[.slice A0 l0.length c0] w fun e w' => ∃ v0_ : Value, e = .returned (.tuple #[v0_, .int .i64 r2]) ∧ Kd.R k37 37 w' w.heap.size (fun _ => True) v0_ r1 ∧ Below w.heap.size w w' := by
 have hu37 := Tryz.underlying37
 have HR0 := a_ hr0
 have HC0 := a_ hc0
 clear hr0 hc0
 have HB := a_ (Below.refl w.heap.size w)
 have H : ((refill_ready.f k l0 0 ([] : List Int)).bind fun t198 => (if t198 = 0 then (refill_Closed.l0 k l0 ([] : List (S37)) (l0.length : Int) 0) else (some (([] : List (S37)), t198)))) = some (r1, r2) := h
 clear h
 replace H := Option.bind_eq_some_iff.mp H
 obtain ⟨t198, A20, H⟩ := H
 replace H : (if t198 = 0 then (refill_Closed.l0 k l0 ([] : List (S37)) (l0.length : Int) 0) else (some (([] : List (S37)), t198))) = some (r1, r2) := H
 have A2 := a_ A20
 clear A20
 by_cases c3 : t198 = 0
 ·rw [if_pos c3] at H
  have c3b0 : (t198 == 0) = true := beq_iff_eq.mpr c3
  have c3b1 : (t198 != 0) = false := bne_eq_false_iff_eq.mpr c3
  clear c3
  have H' := a_ H
  clear H
  go_enter Tryz.func17, Tryz.ntmps17
  go_wp2_with (first | ((with_reducible refine gate_callee (f := 44) rfl ?_); refine goesL_ (some 8) rfl rfl Tryz.func44 (by kernel_rfl) rfl #[.slice A0 l0.length c0, .int .i64 0, .slice none 0 0] rfl tm_ ?_; (refine (refill_ready.calls k _ _ l0 0 _ _ ([] : List Int) t198 _ ?side1 ?side2 ?side3 ?side4 A2.out).mono ?_); (case side1 => exact cl_ HR0.out); (case side2 => exact HC0.out); (case side3 => exact Kd.C_nil _ _); (case side4 => exact Nat.le_refl _); rintro e w4 ⟨rfl, hb⟩; refine ⟨_, rfl, ?_⟩; have n0_ := a_ (below_step bl_ hb); clear HB; have HB := n0_; clear n0_; (try clear hb); (try clear hb2); (try clear hk); (try clear hi)))
  go_loopg [5, 14] k (fun kq v5 v14 w' => ∃ (x5_1 : List (S37)) (x14_1 : Int), v14 = .int .i64 x14_1 ∧ Aside0 (refill_Closed.l0 kq l0 x5_1 (l0.length : Int) x14_1 = some (r1, r2)) ∧ Aside0 (kq ≤ k) ∧ Aside0 (Kd.R k37 37 w' w.heap.size (fun _ => True) v5 x5_1) ∧ Aside0 (Below w.heap.size w w'))
  case atStart => exact ⟨(([] : List (S37))), (0), (by first | rfl | (simp; done) | (simp [*]; done)), H', ⟨Nat.le_refl _⟩, ⟨by first | exact Kd.R_nil _ _ _ _ _ | exact Kd.N_nil _ _ _ _ _ | exact Kd.V_nil _ _ _ _ _ | exact Kd.Q_nil _ _ _ _ _ | exact Kd.S_nil _ _ _ _ _⟩, ⟨bl_⟩⟩
  case round =>
   clear H'
   try clear c1
   try clear p2
   try clear c3
   try clear c3b0
   try clear c3b1
   try clear c4
   obtain ⟨x5_1, x14_1, rfl, HA, HK1, HO_5, HB⟩ := hrel
   cases gk with
   | zero => exact absurd HA.out (by simp [refill_Closed.l0])
   | succ k1 =>
    have H := HA.out
    clear HA
    simp only [refill_Closed.l0] at H
    by_cases c5 : x14_1 < (l0.length : Int)
    ·rw [if_pos c5] at H
     have c5b0 : decide (x14_1 < (l0.length : Int)) = true := decide_eq_true c5
     clear c5
     replace H := Option.bind_eq_some_iff.mp H
     obtain ⟨⟨t199, t200⟩, A60, H⟩ := H
     replace H : ((refill_time.f l0 x14_1).bind fun bt201 => (if x5_1.length < 4398046511104 then (refill_Closed.l0 k1 l0 (x5_1 ++ [(⟨(⟨t199, t200⟩ : S35), (⟨bt201.1, bt201.2⟩ : S35)⟩ : S37)]) (l0.length : Int) (wrap64 (x14_1 + 1))) else (none))) = some (r1, r2) := H
     have A6 := a_ A60
     clear A60
     replace H := Option.bind_eq_some_iff.mp H
     obtain ⟨⟨t201, t202⟩, A70, H⟩ := H
     replace H : (if x5_1.length < 4398046511104 then (refill_Closed.l0 k1 l0 (x5_1 ++ [(⟨(⟨t199, t200⟩ : S35), (⟨t201, t202⟩ : S35)⟩ : S37)]) (l0.length : Int) (wrap64 (x14_1 + 1))) else (none)) = some (r1, r2) := H
     have A7 := a_ A70
     clear A70
     by_cases c8 : x5_1.length < 4398046511104
     ·rw [if_pos c8] at H
      have LMc8 := a_ c8
      clear c8
      obtain ⟨y203, hy203⟩ : ∃ y_ : List (S37), y_ = (x5_1 ++ [(⟨(⟨t199, t200⟩ : S35), (⟨t201, t202⟩ : S35)⟩ : S37)]) := ⟨_, rfl⟩
      replace H : (refill_Closed.l0 k1 l0 y203 (l0.length : Int) (wrap64 (x14_1 + 1))) = some (r1, r2) := by first | (rw [hy203]; with_reducible exact H) | (have H2_ := (Option.bind_some _ _).symm.trans H; rw [hy203]; with_reducible exact H2_) | (have H2_ := (Option.bind_some _ _).symm.trans H; with_reducible exact H2_) | with_reducible exact H | (rw [hy203]; exact H) | exact H
      have Ny203 := a_ hy203
      clear hy203
      have H' := a_ H
      clear H
      go_wp2_with (first | ((with_reducible refine gate_callee (f := 42) rfl ?_); refine goesL_ (some 22) rfl rfl Tryz.func42 (by kernel_rfl) rfl #[.slice A0 l0.length c0, .int .i64 (wrap64 (x14_1 - 1)), .int .i64 x14_1] rfl tm_ ?_; (with_reducible refine (refill_between.calls k1 _ _ l0 (wrap64 (x14_1 - 1)) x14_1 t199 t200 _ ?side1 ?side2 A6.out).mono ?_); (case side1 => exact cl_ (Kd.C_below HR0.out HB.out)); (case side2 => exact HC0.out); rintro e w9 ⟨rfl, hb⟩; refine ⟨_, rfl, ?_⟩; have n0_ := a_ (Kd.R_below (rl_ HO_5.out) hb); have n1_ := a_ (below_step bl_ hb); clear HO_5; clear HB; have HO_5 := n0_; have HB := n1_; clear n0_ n1_; (try clear hb); (try clear hb2); (try clear hk); (try clear hi)) | ((with_reducible refine gate_callee (f := 45) rfl ?_); refine goesL_ (some 25) rfl rfl Tryz.func45 (by kernel_rfl) rfl #[.slice A0 l0.length c0, .int .i64 x14_1] rfl tm_ ?_; (with_reducible refine (refill_time.calls _ _ l0 x14_1 t201 t202 _ ?side1 ?side2 A7.out).mono ?_); (case side1 => exact cl_ (Kd.C_below HR0.out HB.out)); (case side2 => exact HC0.out); rintro e w10 ⟨rfl, hb⟩; refine ⟨_, rfl, ?_⟩; have n0_ := a_ (Kd.R_below (rl_ HO_5.out) hb); have n1_ := a_ (below_step bl_ hb); clear HO_5; clear HB; have HO_5 := n0_; have HB := n1_; clear n0_ n1_; (try clear hb); (try clear hb2); (try clear hk); (try clear hi)) | ((with_reducible refine gate_builtin (b := .append) (xs := #[.tmp 17, .tmp 27]) rfl ?_); at_builtin; refine Kd.R_append k37 (w0 := w) w.heap.size rfl (.tmp 17) (.tmp 27) 23 37 (.agg #[(.int .i64 0), (.int .i64 0), (.int .i64 0), (.int .i64 0)]) 32 rfl Tryz.underlying23 info37 rfl (by decide) (by omega) u5 x5_1 (⟨(⟨t199, t200⟩ : S35), (⟨t201, t202⟩ : S35)⟩ : S37) [.int .i64 t199, .int .i64 t200, .int .i64 t201, .int .i64 t202] (fun _ => True) (fun _ => False) rfl rfl ?aP (fun _ hk => hk.elim) ?aF ?aO ?aB ?aS ?aL ?_; (case aP => exact k37_mkM _ _ _ (⟨(⟨t199, t200⟩ : S35), (⟨t201, t202⟩ : S35)⟩ : S37)); (case aB => exact bl_); (case aF => exact (fun _ _ => trivial)); (case aO => exact (rl_ HO_5.out)); (case aS => exact (below_size bl_)); (case aL => have := LMc8.out; omega); intro v204 w11 ho hb hg hat; rw [← Ny203.out] at ho; have n0_ := a_ (hb); have n1_ := a_ (ho); clear HB; clear HO_5; have HB := n0_; have HO205 := n1_; clear n0_ n1_; clear ho hb hg hat))
      go_roundg k1
      case measure => have := HK1.out; omega
      case rel => exact ⟨(y203), (wrap64 (x14_1 + 1)), (by first | rfl | (simp; done) | (simp [*]; done)), H', ⟨by have := HK1.out; omega⟩, ⟨rl_ HO205.out⟩, ⟨bl_⟩⟩
     ·rw [if_neg c8] at H
      exact absurd H (by simp)
    ·rw [if_neg c5] at H
     have c5b0 : decide (x14_1 < (l0.length : Int)) = false := decide_eq_false c5
     clear c5
     simp only [Option.some.injEq, Prod.mk.injEq] at H
     obtain ⟨rfl, rfl⟩ := H
     go_wp2
     go_ret2
     exact ⟨_, by first | rfl | (simp [errW_none, errW_some] <;> rfl) | (simp [*, errW_none, errW_some] <;> rfl), by (with_reducible repeat (first | apply Kd.R_alloc | apply Kd.R_drewN | apply Kd.R_drew)); exact HO_5.out, bl_⟩
 ·rw [if_neg c3] at H
  have c3b0 : (t198 == 0) = false := beq_eq_false_iff_ne.mpr c3
  have c3b1 : (t198 != 0) = true := bne_iff_ne.mpr c3
  simp only [Option.some.injEq, Prod.mk.injEq] at H
  obtain ⟨rfl, rfl⟩ := H
  go_enter Tryz.func17, Tryz.ntmps17
  go_wp2_with (first | ((with_reducible refine gate_callee (f := 44) rfl ?_); refine goesL_ (some 8) rfl rfl Tryz.func44 (by kernel_rfl) rfl #[.slice A0 l0.length c0, .int .i64 0, .slice none 0 0] rfl tm_ ?_; (refine (refill_ready.calls k _ _ l0 0 _ _ ([] : List Int) t198 _ ?side1 ?side2 ?side3 ?side4 A2.out).mono ?_); (case side1 => exact cl_ HR0.out); (case side2 => exact HC0.out); (case side3 => exact Kd.C_nil _ _); (case side4 => exact Nat.le_refl _); rintro e w12 ⟨rfl, hb⟩; refine ⟨_, rfl, ?_⟩; have n0_ := a_ (below_step bl_ hb); clear HB; have HB := n0_; clear n0_; (try clear hb); (try clear hb2); (try clear hk); (try clear hi)))
  go_ret2
  exact ⟨_, by first | rfl | (simp [errW_none, errW_some] <;> rfl) | (simp [*, errW_none, errW_some] <;> rfl), by first | exact Kd.R_nil _ _ _ _ _ | exact Kd.N_nil _ _ _ _ _ | exact Kd.V_nil _ _ _ _ _ | exact Kd.Q_nil _ _ _ _ _ | exact Kd.S_nil _ _ _ _ _, bl_⟩

end Go.Proofs.YtgiihjcpgjpkcaaGreatDoor.Q
