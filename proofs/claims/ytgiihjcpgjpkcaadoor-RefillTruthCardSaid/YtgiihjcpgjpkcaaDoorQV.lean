/- Contracts of functions of the given program: each Go function as a plain Lean function (name.f) and the proof that its call answers just so, for every reading of its arguments. Written by the session's program wip/xprint.py out of the translation. -/
import Derived.Test.YtgiihjcpgjpkcaaDoorQ0
import Derived.Test.YtgiihjcpgjpkcaaDoorQC
namespace Go.Proofs.YtgiihjcpgjpkcaaDoor.Q
open Go.RowKit Go.Proofs.YtgiihjcpgjpkcaaDoorW.PrintWords Go.Proofs.YtgiihjcpgjpkcaaDoorW.PrintLast Go.Proofs.YtgiihjcpgjpkcaaDoorW.PrintMore
attribute [local go_sem] max2_int min2_int max_two min_two max_three min_three max_four min_four   -- for this text's walks alone
set_option linter.unusedVariables false
set_option linter.unusedSimpArgs false

/-! ### refill_Earliest_1: function 87 -/
def refill_Earliest_1.f (a0_0 : Int) (a0_1 : Int) : Option (Int) := some a0_0
set_option maxHeartbeats 8000000 in
set_option maxRecDepth 100000 in
theorem refill_Earliest_1.calls (a0_0 : Int) (a0_1 : Int) (r : Int) (w : World) (h : refill_Earliest_1.f a0_0 a0_1 = some r) :
  Calls Tryd.prog 87 #[.agg #[.int .i64 a0_0, .int .i64 a0_1]] w fun e w' => e = .returned (.int .i64 r) ∧ Below w.heap.size w w' := by
 have hu49 := Tryd.underlying49
 have HB := a_ (Below.refl w.heap.size w)
 have H : (some a0_0) = some r := h
 clear h
 obtain rfl := Option.some.inj H
 go_enter Tryd.func87, Tryd.ntmps87
 go_wp2_with (first | ((with_reducible refine gate_dst (N := 1) rfl ?_); refine box_event ?hg (N := 1) ?hd (cs := #[.int .i64 a0_0, .int .i64 a0_1]) (t := 49) ?hr ?_; (case hd => rfl); (case hg => rfl); (case hr => first | (go_simp; done) | (go_simp; rfl)); intro gb958 hg w2 hbox hb; have n0_ := a_ (below_step bl_ hb); have n1_ := a_ (hbox); have n2_ := a_ ((bz_ (w := w) hg)); have n3_ := a_ ((bz_ (w := w) hg)); clear HB; have HB := n0_; have BK958 := n1_; have GW958 := n2_; have GE958 := n3_; clear n0_ n1_ n2_ n3_; clear hb hbox hg; have hcz3_0 : w2.cell? ⟨gb958, 0, none⟩ = some (.int .i64 a0_0) := (blk_cell BK958.out 0).trans rfl; have hcz3_1 : w2.cell? ⟨gb958, 1, none⟩ = some (.int .i64 a0_1) := (blk_cell BK958.out 1).trans rfl; have hfz3_0 := blk_frozen BK958.out 0; have hfz3_1 := blk_frozen BK958.out 1))
 go_ret
 exact ⟨by first | rfl | (simp [errW_none, errW_some] <;> rfl) | (simp [*, errW_none, errW_some] <;> rfl), bl_⟩

/-! ### refill_Latest_1: function 88 -/
def refill_Latest_1.f (a0_0 : Int) (a0_1 : Int) : Option (Int) := some a0_1
set_option maxHeartbeats 8000000 in
set_option maxRecDepth 100000 in
theorem refill_Latest_1.calls (a0_0 : Int) (a0_1 : Int) (r : Int) (w : World) (h : refill_Latest_1.f a0_0 a0_1 = some r) :
  Calls Tryd.prog 88 #[.agg #[.int .i64 a0_0, .int .i64 a0_1]] w fun e w' => e = .returned (.int .i64 r) ∧ Below w.heap.size w w' := by
 have hu49 := Tryd.underlying49
 have HB := a_ (Below.refl w.heap.size w)
 have H : (some a0_1) = some r := h
 clear h
 obtain rfl := Option.some.inj H
 go_enter Tryd.func88, Tryd.ntmps88
 go_wp2_with (first | ((with_reducible refine gate_dst (N := 1) rfl ?_); refine box_event ?hg (N := 1) ?hd (cs := #[.int .i64 a0_0, .int .i64 a0_1]) (t := 49) ?hr ?_; (case hd => rfl); (case hg => rfl); (case hr => first | (go_simp; done) | (go_simp; rfl)); intro gb959 hg w2 hbox hb; have n0_ := a_ (below_step bl_ hb); have n1_ := a_ (hbox); have n2_ := a_ ((bz_ (w := w) hg)); have n3_ := a_ ((bz_ (w := w) hg)); clear HB; have HB := n0_; have BK959 := n1_; have GW959 := n2_; have GE959 := n3_; clear n0_ n1_ n2_ n3_; clear hb hbox hg; have hcz3_0 : w2.cell? ⟨gb959, 0, none⟩ = some (.int .i64 a0_0) := (blk_cell BK959.out 0).trans rfl; have hcz3_1 : w2.cell? ⟨gb959, 1, none⟩ = some (.int .i64 a0_1) := (blk_cell BK959.out 1).trans rfl; have hfz3_0 := blk_frozen BK959.out 0; have hfz3_1 := blk_frozen BK959.out 1))
 go_ret
 exact ⟨by first | rfl | (simp [errW_none, errW_some] <;> rfl) | (simp [*, errW_none, errW_some] <;> rfl), bl_⟩

/-! ### waterhourlaw04_RefillPrefix_1: function 56 -/
def waterhourlaw04_RefillPrefix_1.f (a0_0 : Int) (a0_1 : Int) (a0_2 : Int) (a0_3 : Int) : Option (Bool) := (waterhourref04_Known.f a0_2 a0_3).bind fun t961 => (some t961)
set_option maxHeartbeats 8000000 in
set_option maxRecDepth 100000 in
theorem waterhourlaw04_RefillPrefix_1.calls (a0_0 : Int) (a0_1 : Int) (a0_2 : Int) (a0_3 : Int) (r : Bool) (w : World) (h : waterhourlaw04_RefillPrefix_1.f a0_0 a0_1 a0_2 a0_3 = some r) :
  Calls Tryd.prog 56 #[.agg #[.int .i64 a0_0, .int .i64 a0_1, .int .i64 a0_2, .int .i64 a0_3]] w fun e w' => e = .returned (.bool r) ∧ Below w.heap.size w w' := by
 have hu51 := Tryd.underlying51
 have hu49 := Tryd.underlying49
 have HB := a_ (Below.refl w.heap.size w)
 have H : ((waterhourref04_Known.f a0_2 a0_3).bind fun t961 => (some t961)) = some r := h
 clear h
 replace H := Option.bind_eq_some_iff.mp H
 obtain ⟨t961, A20, H⟩ := H
 replace H : (some t961) = some r := H
 have A2 := a_ A20
 clear A20
 obtain rfl := Option.some.inj H
 go_enter Tryd.func56, Tryd.ntmps56
 go_wp2_with (first | ((with_reducible refine gate_dst (N := 1) rfl ?_); refine box_event ?hg (N := 1) ?hd (cs := #[.int .i64 a0_0, .int .i64 a0_1, .int .i64 a0_2, .int .i64 a0_3]) (t := 51) ?hr ?_; (case hd => rfl); (case hg => rfl); (case hr => first | (go_simp; done) | (go_simp; rfl)); intro gb960 hg w3 hbox hb; have n0_ := a_ (below_step bl_ hb); have n1_ := a_ (hbox); have n2_ := a_ ((bz_ (w := w) hg)); have n3_ := a_ ((bz_ (w := w) hg)); clear HB; have HB := n0_; have BK960 := n1_; have GW960 := n2_; have GE960 := n3_; clear n0_ n1_ n2_ n3_; clear hb hbox hg; have hcz4_0 : w3.cell? ⟨gb960, 0, none⟩ = some (.int .i64 a0_0) := (blk_cell BK960.out 0).trans rfl; have hcz4_1 : w3.cell? ⟨gb960, 1, none⟩ = some (.int .i64 a0_1) := (blk_cell BK960.out 1).trans rfl; have hcz4_2 : w3.cell? ⟨gb960, 2, none⟩ = some (.int .i64 a0_2) := (blk_cell BK960.out 2).trans rfl; have hcz4_3 : w3.cell? ⟨gb960, 3, none⟩ = some (.int .i64 a0_3) := (blk_cell BK960.out 3).trans rfl; have hfz4_0 := blk_frozen BK960.out 0; have hfz4_1 := blk_frozen BK960.out 1; have hfz4_2 := blk_frozen BK960.out 2; have hfz4_3 := blk_frozen BK960.out 3) | ((with_reducible refine gate_callee (f := 38) rfl ?_); refine goesL_ (some 5) rfl rfl Tryd.func38 (by kernel_rfl) rfl #[.agg #[.int .i64 a0_2, .int .i64 a0_3]] rfl tm_ ?_; (with_reducible refine (waterhourref04_Known.calls a0_2 a0_3 t961 _ A2.out).mono ?_); rintro e w5 ⟨rfl, hb⟩; refine ⟨_, rfl, ?_⟩; have n0_ := a_ (bb_ BK960.out hb); have n1_ := a_ (below_step bl_ hb); clear BK960; clear HB; have BK960 := n0_; have HB := n1_; clear n0_ n1_; (try clear hb); (try clear hb2); (try clear hk); (try clear hi)))
 go_ret
 exact ⟨by first | rfl | (simp [errW_none, errW_some] <;> rfl) | (simp [*, errW_none, errW_some] <;> rfl), bl_⟩

end Go.Proofs.YtgiihjcpgjpkcaaDoor.Q
