/- Contracts of functions that RefillDays reaches: each Go function as a plain Lean function and the proof that its call answers just so. -/
import Derived.Test.YtgiihjcpgjpkcaaDoorKQ0
import Derived.Test.YtgiihjcpgjpkcaaDoorKQC
namespace Go.Proofs.YtgiihjcpgjpkcaaDoor.Q
open Go.RowKit Go.Proofs.YtgiihjcpgjpkcaaDoorW.PrintWords Go.Proofs.YtgiihjcpgjpkcaaDoorW.PrintLast Go.Proofs.YtgiihjcpgjpkcaaDoorW.PrintMore
attribute [local go_sem] max2_int min2_int max_two min_two max_three min_three max_four min_four   -- for this text's walks alone
set_option linter.unusedVariables false
set_option linter.unusedSimpArgs false
def waterhourref04_way.l0 : Nat → List (S51) → Int → Int → Int → Int → Option (Int × Int)
 | 0, _, _, _, _, _ => none
 | k + 1, x0, x2, x8, x268000, x268001 => if x8 ≤ x2 then (if 0 ≤ x8 then (if x8 < (x0.length : Int) then (waterhourref04_way.l0 k x0 x2 (wrap64 (x8 + 1)) (wrap64 (x268000 + ((rd_T51 x0 x8).f0.f0))) (wrap64 (x268001 + ((rd_T51 x0 x8).f0.f1)))) else (none)) else (none)) else (some (x268000, x268001))
def waterhourref04_way.f (k : Nat) (l0 : List (S51)) (a1 : Int) (a2 : Int) : Option (Int × Int) := waterhourref04_way.l0 k l0 a2 (wrap64 (a1 + 1)) 0 0
theorem waterhourref04_way.mono_l : ∀ k, (∀ y0 y1 y2 y3 y4, LeO (waterhourref04_way.l0 k y0 y1 y2 y3 y4) (waterhourref04_way.l0 (k + 1) y0 y1 y2 y3 y4))
 | 0 => fun _ _ _ _ _ r h => by simp [waterhourref04_way.l0] at h
 | k + 1 => by
  have ih0 := waterhourref04_way.mono_l k
  ·intro y0 y1 y2 y3 y4
   unfold waterhourref04_way.l0
   repeat' first
   | (with_reducible exact ih0 _ _ _ _ _)
   | (with_reducible exact LeO.refl _)
   | (with_reducible exact LeO.none _)
   | (with_reducible refine LeO.ite ?_ ?_)
   | (with_reducible refine LeO.bind ?_ (fun _ => ?_))
   | exact ih0 _ _ _ _ _
   | exact LeO.none _
   | refine LeO.ite ?_ ?_
   | refine LeO.bind ?_ (fun _ => ?_)
theorem waterhourref04_way.mono : ∀ a0 a1 a2 k, LeO (waterhourref04_way.f k a0 a1 a2) (waterhourref04_way.f (k + 1) a0 a1 a2) := by
 intro a0 a1 a2 k
 have ih0 := waterhourref04_way.mono_l k
 unfold waterhourref04_way.f
 repeat' first
   | (with_reducible exact ih0 _ _ _ _ _)
   | (with_reducible exact LeO.refl _)
   | (with_reducible exact LeO.none _)
   | (with_reducible refine LeO.ite ?_ ?_)
   | (with_reducible refine LeO.bind ?_ (fun _ => ?_))
   | exact ih0 _ _ _ _ _
   | exact LeO.none _
   | refine LeO.ite ?_ ?_
   | refine LeO.bind ?_ (fun _ => ?_)
def waterhourref04_way.T5 : Bool × List (List Nat × List Nat) := (true, [([], []), ([0], [0]), ([], []), ([], []), ([2, 3], [2, 3]), ([4], [4]), ([5], [5]), ([6], [6]), ([1, 7], [1, 7]), ([0, 1, 2, 3, 4, 5, 6, 7, 8], []), ([9, 8, 0, 1, 2, 3, 4, 5, 6, 7, 8], [8, 9])])
def waterhourref04_way.B5 : List Nat := [0, 1, 0, 0, 12, 28, 60, 124, 255, 511, 1023]
theorem waterhourref04_way.tab5 : rtab .any (opsOf Tryd.f90 5) = waterhourref04_way.T5 := by kernel_rfl
theorem waterhourref04_way.bits5 : waitsOk waterhourref04_way.T5.2 waterhourref04_way.B5 = true := by kernel_rfl
def waterhourref04_way.T6 : Bool × List (List Nat × List Nat) := (true, [([], []), ([0], [0]), ([], []), ([], []), ([2, 3], [2, 3]), ([4], [4]), ([5], [5]), ([6], [6]), ([1, 7], [1, 7]), ([0, 1, 2, 3, 4, 5, 6, 7, 8], []), ([9, 8, 0, 1, 2, 3, 4, 5, 6, 7, 8], [8, 9])])
def waterhourref04_way.B6 : List Nat := [0, 1, 0, 0, 12, 28, 60, 124, 255, 511, 1023]
theorem waterhourref04_way.tab6 : rtab .any (opsOf Tryd.f90 6) = waterhourref04_way.T6 := by kernel_rfl
theorem waterhourref04_way.bits6 : waitsOk waterhourref04_way.T6.2 waterhourref04_way.B6 = true := by kernel_rfl
set_option maxHeartbeats 8000000 in
set_option maxRecDepth 100000 in
theorem waterhourref04_way.calls (k : Nat) (A0 : Option Addr) (c0 : Nat) (l0 : List (S51)) (a1 : Int) (a2 : Int) (r1 : Int) (r2 : Int) (w : World) (hr0 : Kd.C k51 w A0 l0.length l0) (hc0 : l0.length ≤ c0) (h : waterhourref04_way.f k l0 a1 a2 = some (r1, r2)) :
  Calls Tryd.prog 90 #[.slice A0 l0.length c0, .int .i64 a1, .int .i64 a2] w fun e w' => e = .returned (.agg #[.int .i64 r1, .int .i64 r2]) ∧ Below w.heap.size w w' := by
 have hu49 := Tryd.underlying49
 have HR0 := a_ hr0
 have HC0 := a_ hc0
 clear hr0 hc0
 have HB := a_ (Below.refl w.heap.size w)
 have H : (waterhourref04_way.l0 k l0 a2 (wrap64 (a1 + 1)) 0 0) = some (r1, r2) := h
 clear h
 have H' := a_ H
 clear H
 go_enter Tryd.func90, Tryd.ntmps90
 go_wp2_with (first | ((with_reducible refine gate_dst (N := 6) rfl ?_); refine box_event ?hg (N := 6) ?hd (cs := #[.int .i64 0, .int .i64 0]) (t := 49) ?hr ?_; (case hd => rfl); (case hg => rfl); (case hr => first | (go_simp; done) | (go_simp; rfl)); intro gb266 hg w4 hbox hb; have n0_ := a_ (below_step bl_ hb); have n1_ := a_ (hbox); have n2_ := a_ ((bz_ (w := w) hg)); have n3_ := a_ ((bz_ (w := w) hg)); clear HB; have HB := n0_; have BK266 := n1_; have GW266 := n2_; have GE266 := n3_; clear n0_ n1_ n2_ n3_; clear hb hbox hg) | ((with_reducible refine gate_dst (N := 7) rfl ?_); refine box_event ?hg (N := 7) ?hd (cs := #[.int .i64 0, .int .i64 0]) (t := 49) ?hr ?_; (case hd => rfl); (case hg => rfl); (case hr => first | (go_simp; done) | (go_simp; rfl)); intro gb267 hg w5 hbox hb; have n0_ := a_ (bb_ BK266.out hb); have n1_ := a_ (below_step bl_ hb); have n2_ := a_ (hbox); have n3_ := a_ ((bz_ (w := w) hg)); have n4_ := a_ ((bz_ (w := w) hg)); have n5_ := a_ ((nl_ BK266.out hg)); have n6_ := a_ ((ng_ BK266.out hg)); clear BK266; clear HB; have BK266 := n0_; have HB := n1_; have BK267 := n2_; have GW267 := n3_; have GE267 := n4_; have NB266_267 := n5_; have NB267_266 := n6_; clear n0_ n1_ n2_ n3_ n4_ n5_ n6_; clear hb hbox hg; have hnb6 := NB267_266.out; have hnc6 := NB266_267.out; have hcz7_0 : w5.cell? ⟨gb267, 0, none⟩ = some (.int .i64 0) := (blk_cell BK267.out 0).trans rfl; have hcz7_1 : w5.cell? ⟨gb267, 1, none⟩ = some (.int .i64 0) := (blk_cell BK267.out 1).trans rfl; have hfz7_0 := blk_frozen BK267.out 0; have hfz7_1 := blk_frozen BK267.out 1))
 go_loopg [8] k (fun kq v8 w' => ∃ (x8_1 : Int) (x268000_1 : Int) (x268001_1 : Int), v8 = .int .i64 x8_1 ∧ Aside0 (waterhourref04_way.l0 kq l0 a2 x8_1 x268000_1 x268001_1 = some (r1, r2)) ∧ Aside0 (kq ≤ k) ∧ Aside0 (w'.heap[gb266]? = some (.cells #[.int .i64 0, .int .i64 0] 49 (0, 0))) ∧ Aside0 (w'.heap[gb267]? = some (.cells #[.int .i64 x268000_1, .int .i64 x268001_1] 49 (0, 0))) ∧ Aside0 (Below w.heap.size w w'))
 case atStart => exact ⟨(wrap64 (a1 + 1)), (0), (0), (by first | rfl | (simp; done) | (simp [*]; done)), H', ⟨Nat.le_refl _⟩, ⟨by (with_reducible repeat (first | refine blk_drewN ?_ _ | refine blk_drew ?_ | refine blk_alloc ?_ _)); refine blk_far ?_ NB266_267.out _; (with_reducible repeat (first | refine blk_drewN ?_ _ | refine blk_drew ?_ | refine blk_alloc ?_ _)); refine blk_far ?_ NB266_267.out _; (with_reducible repeat (first | refine blk_drewN ?_ _ | refine blk_drew ?_ | refine blk_alloc ?_ _)); exact BK266.out⟩, ⟨by (with_reducible repeat (first | refine blk_drewN ?_ _ | refine blk_drew ?_ | refine blk_alloc ?_ _)); refine blk_put (cs := #[.int .i64 0, .int .i64 0]) ?_ 1 _ rfl; (with_reducible repeat (first | refine blk_drewN ?_ _ | refine blk_drew ?_ | refine blk_alloc ?_ _)); refine blk_put (cs := #[.int .i64 0, .int .i64 0]) ?_ 0 _ rfl; (with_reducible repeat (first | refine blk_drewN ?_ _ | refine blk_drew ?_ | refine blk_alloc ?_ _)); exact BK267.out⟩, ⟨bl_⟩⟩
 case round =>
  clear H'
  try clear p2
  try clear c6
  try clear p6
  try clear hcz7_0
  try clear hcz7_1
  try clear hfz7_0
  try clear hfz7_1
  obtain ⟨x8_1, x268000_1, x268001_1, rfl, HA, HK1, BK266, BK267, HB⟩ := hrel
  cases gk with
  | zero => exact absurd HA.out (by simp [waterhourref04_way.l0])
  | succ k1 =>
   have H := HA.out
   clear HA
   simp only [waterhourref04_way.l0] at H
   by_cases c8 : x8_1 ≤ a2
   ·rw [if_pos c8] at H
    have c8b0 : decide (x8_1 ≤ a2) = true := decide_eq_true c8
    clear c8
    by_cases c9 : 0 ≤ x8_1
    ·rw [if_pos c9] at H
     have c9b0 : decide (0 ≤ x8_1) = true := decide_eq_true c9
     clear c9
     by_cases c10 : x8_1 < (l0.length : Int)
     ·rw [if_pos c10] at H
      have c10b0 : decide (x8_1 < (l0.length : Int)) = true := decide_eq_true c10
      clear c10
      have H' := a_ H
      clear H
      try go_wp2
      have n0_ := a_ (blk_drew BK266.out)
      have n1_ := a_ (blk_drew BK267.out)
      have n2_ := a_ (below_drew1 HB.out)
      clear BK266
      clear BK267
      clear HB
      have BK266 := n0_
      have BK267 := n1_
      have HB := n2_
      clear n0_ n1_ n2_
      have p268 : 0 ≤ (x8_1 : Int) := of_decide_eq_true (by first | (with_reducible assumption) | assumption)
      have q268 : x8_1 < (l0.length : Int) := of_decide_eq_true (by first | (with_reducible assumption) | assumption)
      obtain ⟨ad268, e268, hx268_0, hx268_1, hx268_2, hx268_3⟩ := at_T51 HR0.out x8_1 p268 q268
      have hw268_3 := hx268_3
      have hw268_2 := hx268_2
      have hw268_1 := hx268_1
      have hw268_0 := hx268_0
      cases e268
      replace hx268_0 := (HB.out.cell (World.block_lt_of_cell? w _ hx268_0)).trans hx268_0
      replace hx268_1 := (HB.out.cell (World.block_lt_of_cell? w _ hx268_1)).trans hx268_1
      replace hx268_2 := (HB.out.cell (World.block_lt_of_cell? w _ hx268_2)).trans hx268_2
      replace hx268_3 := (HB.out.cell (World.block_lt_of_cell? w _ hx268_3)).trans hx268_3
      replace p268 := eq_true p268
      replace q268 := eq_true q268
      refine start_ (n := 11) (S := fun w' => w'.cell? ⟨gb267, 0, none⟩ = some (.int .i64 x268000_1) ∧ w'.cell? ⟨gb267, 1, none⟩ = some (.int .i64 x268001_1) ∧ w'.cell? (ad268.add ((x8_1).toNat * 4)) = some (.int .i64 ((rd_T51 l0 x8_1).f0.f0)) ∧ w'.cell? ⟨(ad268.add ((x8_1).toNat * 4)).block, (ad268.add ((x8_1).toNat * 4)).off + 1, none⟩ = some (.int .i64 ((rd_T51 l0 x8_1).f0.f1)) ∧ w'.cell? ⟨(ad268.add ((x8_1).toNat * 4)).block, (ad268.add ((x8_1).toNat * 4)).off + 2, none⟩ = some (.int .i64 ((rd_T51 l0 x8_1).f1.f0)) ∧ w'.cell? ⟨(ad268.add ((x8_1).toNat * 4)).block, (ad268.add ((x8_1).toNat * 4)).off + 3, none⟩ = some (.int .i64 ((rd_T51 l0 x8_1).f1.f1))) (ds := [10]) #[false, false, false, false, false, false, false, false, false, false, false] (by kernel_rfl) rfl rfl ⟨(blk_cell BK267.out 0).trans rfl, (blk_cell BK267.out 1).trans rfl, ((HB.out.cell (World.block_lt_of_cell? w _ hw268_0)).trans hw268_0), ((HB.out.cell (World.block_lt_of_cell? w _ hw268_1)).trans hw268_1), ((HB.out.cell (World.block_lt_of_cell? w _ hw268_2)).trans hw268_2), ((HB.out.cell (World.block_lt_of_cell? w _ hw268_3)).trans hw268_3)⟩ (fun hHeld => ?_); refine with_tabW waterhourref04_way.tab5 waterhourref04_way.bits5 (fun HT_ HW_ => ?_)
      generalize wr.drew = w11 at BK266 BK267 HB hx268_0 hx268_1 hx268_2 hx268_3 hHeld ⊢
      refine pz_ 0 17 HT_ ?_
      refine pz_ 2 19 HT_ ?_
      refine pz_ 3 20 HT_ ?_
      refine pz_ 4 21 HT_ ?_
      refine pz_ 5 22 HT_ ?_
      refine pz_ 6 23 HT_ ?_
      refine take_ (i := 1) (N := some 18) (v := ?_) (a' := ?_) #[true, true, true, true, true, true, true, false, false, false, false] rfl rfl (take_ofW HT_.out HW_.out (by kernel_rfl)) (fun _ _ _ h => h) (Or.inl ⟨by rfl, ?_⟩) hHeld ?_ ?_
      rotate_left
      ·rintro w' ⟨s0, s1, s2, s3, s4, s5⟩
       go_simp
       with_reducible rfl
      rotate_left
      ·simp only [Act.put, List.setIfInBounds_toArray, List.set_cons_zero, List.set_cons_succ, i64_w, i32_w]
       rfl
      refine take_ (i := 7) (N := some 24) (v := ?_) (a' := ?_) #[true, true, true, true, true, true, true, true, false, false, false] rfl rfl (take_ofW HT_.out HW_.out (by kernel_rfl)) (fun _ _ _ h => h) (Or.inl ⟨by rfl, ?_⟩) hHeld ?_ ?_
      rotate_left
      ·rintro w' ⟨s0, s1, s2, s3, s4, s5⟩
       go_simp
       with_reducible rfl
      rotate_left
      ·simp only [Act.put, List.setIfInBounds_toArray, List.set_cons_zero, List.set_cons_succ, i64_w, i32_w]
       rfl
      refine pz_ 8 25 HT_ ?_
      refine pz_ 9 26 HT_ ?_
      refine last_ (i := 10) (N := none) #[true, true, true, true, true, true, true, true, true, true, true] rfl rfl (one_of HT_.out (by kernel_rfl)) (by decide) (fun K hK => ?_)
      have hs12 : w11.cell? ⟨gb267, 0, none⟩ = some (.int .i64 x268000_1) := (blk_cell BK267.out 0).trans rfl
      have hfs12 := blk_frozen BK267.out 0
      have hns12_0 := NB266_267.out
      have hms12_0 := NB267_266.out
      refine skip_ (w1 := ?_) (by rfl) rfl ?_ ?_
      rotate_left
      ·go_simp
       rfl
      refine hK.out _ _ ?_
      clear hK K
      refine done_ (done_of HT_.out (by kernel_rfl)) ?_
      try go_wp2
      have n0_ : Aside0 ((w11.setCell ⟨gb267, 0, none⟩ (.int .i64 (wrap64 (x268000_1 + ((rd_T51 l0 x8_1).f0.f0))))).heap[gb266]? = some (.cells #[.int .i64 0, .int .i64 0] 49 (0, 0))) := ⟨by (with_reducible repeat (first | refine blk_drewN ?_ _ | refine blk_drew ?_ | refine blk_alloc ?_ _)); refine blk_far ?_ NB266_267.out _; (with_reducible repeat (first | refine blk_drewN ?_ _ | refine blk_drew ?_ | refine blk_alloc ?_ _)); exact BK266.out⟩
      have n1_ : Aside0 ((w11.setCell ⟨gb267, 0, none⟩ (.int .i64 (wrap64 (x268000_1 + ((rd_T51 l0 x8_1).f0.f0))))).heap[gb267]? = some (.cells #[.int .i64 (wrap64 (x268000_1 + ((rd_T51 l0 x8_1).f0.f0))), .int .i64 x268001_1] 49 (0, 0))) := ⟨by (with_reducible repeat (first | refine blk_drewN ?_ _ | refine blk_drew ?_ | refine blk_alloc ?_ _)); refine blk_put (cs := #[.int .i64 x268000_1, .int .i64 x268001_1]) ?_ 0 _ rfl; (with_reducible repeat (first | refine blk_drewN ?_ _ | refine blk_drew ?_ | refine blk_alloc ?_ _)); exact BK267.out⟩
      have n2_ : Aside0 (Below w.heap.size w (w11.setCell ⟨gb267, 0, none⟩ (.int .i64 (wrap64 (x268000_1 + ((rd_T51 l0 x8_1).f0.f0)))))) := ⟨bl_⟩
      (try clear BK266)
      (try clear BK267)
      (try clear HB)
      generalize (w11.setCell ⟨gb267, 0, none⟩ (.int .i64 (wrap64 (x268000_1 + ((rd_T51 l0 x8_1).f0.f0))))) = w13 at n0_ n1_ n2_ ⊢
      have BK266 := n0_
      have BK267 := n1_
      have HB := n2_
      clear n0_ n1_ n2_
      have n0_ := a_ (blk_drew BK266.out)
      have n1_ := a_ (blk_drew BK267.out)
      have n2_ := a_ (below_drew1 HB.out)
      clear BK266
      clear BK267
      clear HB
      have BK266 := n0_
      have BK267 := n1_
      have HB := n2_
      clear n0_ n1_ n2_
      have p269 : 0 ≤ (x8_1 : Int) := of_decide_eq_true (by first | (with_reducible assumption) | assumption)
      have q269 : x8_1 < (l0.length : Int) := of_decide_eq_true (by first | (with_reducible assumption) | assumption)
      obtain ⟨ad269, e269, hx269_0, hx269_1, hx269_2, hx269_3⟩ := at_T51 HR0.out x8_1 p269 q269
      have hw269_3 := hx269_3
      have hw269_2 := hx269_2
      have hw269_1 := hx269_1
      have hw269_0 := hx269_0
      obtain rfl : ad268 = ad269 := (by injection e269)
      replace hx269_0 := (HB.out.cell (World.block_lt_of_cell? w _ hx269_0)).trans hx269_0
      replace hx269_1 := (HB.out.cell (World.block_lt_of_cell? w _ hx269_1)).trans hx269_1
      replace hx269_2 := (HB.out.cell (World.block_lt_of_cell? w _ hx269_2)).trans hx269_2
      replace hx269_3 := (HB.out.cell (World.block_lt_of_cell? w _ hx269_3)).trans hx269_3
      replace p269 := eq_true p269
      replace q269 := eq_true q269
      refine start_ (n := 11) (S := fun w' => w'.cell? ⟨gb267, 0, none⟩ = some (.int .i64 (wrap64 (x268000_1 + ((rd_T51 l0 x8_1).f0.f0)))) ∧ w'.cell? ⟨gb267, 1, none⟩ = some (.int .i64 x268001_1) ∧ w'.cell? (ad268.add ((x8_1).toNat * 4)) = some (.int .i64 ((rd_T51 l0 x8_1).f0.f0)) ∧ w'.cell? ⟨(ad268.add ((x8_1).toNat * 4)).block, (ad268.add ((x8_1).toNat * 4)).off + 1, none⟩ = some (.int .i64 ((rd_T51 l0 x8_1).f0.f1)) ∧ w'.cell? ⟨(ad268.add ((x8_1).toNat * 4)).block, (ad268.add ((x8_1).toNat * 4)).off + 2, none⟩ = some (.int .i64 ((rd_T51 l0 x8_1).f1.f0)) ∧ w'.cell? ⟨(ad268.add ((x8_1).toNat * 4)).block, (ad268.add ((x8_1).toNat * 4)).off + 3, none⟩ = some (.int .i64 ((rd_T51 l0 x8_1).f1.f1))) (ds := [10]) #[false, false, false, false, false, false, false, false, false, false, false] (by kernel_rfl) rfl rfl ⟨(blk_cell BK267.out 0).trans rfl, (blk_cell BK267.out 1).trans rfl, ((HB.out.cell (World.block_lt_of_cell? w _ hw269_0)).trans hw269_0), ((HB.out.cell (World.block_lt_of_cell? w _ hw269_1)).trans hw269_1), ((HB.out.cell (World.block_lt_of_cell? w _ hw269_2)).trans hw269_2), ((HB.out.cell (World.block_lt_of_cell? w _ hw269_3)).trans hw269_3)⟩ (fun hHeld => ?_); refine with_tabW waterhourref04_way.tab6 waterhourref04_way.bits6 (fun HT_ HW_ => ?_)
      generalize w13.drew = w14 at BK266 BK267 HB hx269_0 hx269_1 hx269_2 hx269_3 hHeld ⊢
      refine pz_ 0 27 HT_ ?_
      refine pz_ 2 29 HT_ ?_
      refine pz_ 3 30 HT_ ?_
      refine pz_ 4 31 HT_ ?_
      refine pz_ 5 32 HT_ ?_
      refine pz_ 6 33 HT_ ?_
      refine take_ (i := 1) (N := some 28) (v := ?_) (a' := ?_) #[true, true, true, true, true, true, true, false, false, false, false] rfl rfl (take_ofW HT_.out HW_.out (by kernel_rfl)) (fun _ _ _ h => h) (Or.inl ⟨by rfl, ?_⟩) hHeld ?_ ?_
      rotate_left
      ·rintro w' ⟨s0, s1, s2, s3, s4, s5⟩
       go_simp
       with_reducible rfl
      rotate_left
      ·simp only [Act.put, List.setIfInBounds_toArray, List.set_cons_zero, List.set_cons_succ, i64_w, i32_w]
       rfl
      refine take_ (i := 7) (N := some 34) (v := ?_) (a' := ?_) #[true, true, true, true, true, true, true, true, false, false, false] rfl rfl (take_ofW HT_.out HW_.out (by kernel_rfl)) (fun _ _ _ h => h) (Or.inl ⟨by rfl, ?_⟩) hHeld ?_ ?_
      rotate_left
      ·rintro w' ⟨s0, s1, s2, s3, s4, s5⟩
       go_simp
       with_reducible rfl
      rotate_left
      ·simp only [Act.put, List.setIfInBounds_toArray, List.set_cons_zero, List.set_cons_succ, i64_w, i32_w]
       rfl
      refine pz_ 8 35 HT_ ?_
      refine pz_ 9 36 HT_ ?_
      refine last_ (i := 10) (N := none) #[true, true, true, true, true, true, true, true, true, true, true] rfl rfl (one_of HT_.out (by kernel_rfl)) (by decide) (fun K hK => ?_)
      have hs15 : w14.cell? ⟨gb267, 1, none⟩ = some (.int .i64 x268001_1) := (blk_cell BK267.out 1).trans rfl
      have hfs15 := blk_frozen BK267.out 1
      have hns15_0 := NB266_267.out
      have hms15_0 := NB267_266.out
      refine skip_ (w1 := ?_) (by rfl) rfl ?_ ?_
      rotate_left
      ·go_simp
       rfl
      refine hK.out _ _ ?_
      clear hK K
      refine done_ (done_of HT_.out (by kernel_rfl)) ?_
      try go_wp2
      go_roundg k1
      case measure => have := HK1.out; omega
      case rel => exact ⟨(wrap64 (x8_1 + 1)), (wrap64 (x268000_1 + ((rd_T51 l0 x8_1).f0.f0))), (wrap64 (x268001_1 + ((rd_T51 l0 x8_1).f0.f1))), (by first | rfl | (simp; done) | (simp [*]; done)), H', ⟨by have := HK1.out; omega⟩, ⟨by (with_reducible repeat (first | refine blk_drewN ?_ _ | refine blk_drew ?_ | refine blk_alloc ?_ _)); refine blk_far ?_ NB266_267.out _; (with_reducible repeat (first | refine blk_drewN ?_ _ | refine blk_drew ?_ | refine blk_alloc ?_ _)); exact BK266.out⟩, ⟨by (with_reducible repeat (first | refine blk_drewN ?_ _ | refine blk_drew ?_ | refine blk_alloc ?_ _)); refine blk_put (cs := #[.int .i64 (wrap64 (x268000_1 + ((rd_T51 l0 x8_1).f0.f0))), .int .i64 x268001_1]) ?_ 1 _ rfl; (with_reducible repeat (first | refine blk_drewN ?_ _ | refine blk_drew ?_ | refine blk_alloc ?_ _)); exact BK267.out⟩, ⟨bl_⟩⟩
     ·rw [if_neg c10] at H
      exact absurd H (by simp)
    ·rw [if_neg c9] at H
     exact absurd H (by simp)
   ·rw [if_neg c8] at H
    have c8b0 : decide (x8_1 ≤ a2) = false := decide_eq_false c8
    clear c8
    simp only [Option.some.injEq, Prod.mk.injEq] at H
    obtain ⟨rfl, rfl⟩ := H
    have hnb16 := NB267_266.out
    have hnc16 := NB266_267.out
    have hcz17_0 : wr.cell? ⟨gb267, 0, none⟩ = some (.int .i64 x268000_1) := (blk_cell BK267.out 0).trans rfl
    have hcz17_1 : wr.cell? ⟨gb267, 1, none⟩ = some (.int .i64 x268001_1) := (blk_cell BK267.out 1).trans rfl
    have hfz17_0 := blk_frozen BK267.out 0
    have hfz17_1 := blk_frozen BK267.out 1
    have hcz18_0 : wr.cell? ⟨gb266, 0, none⟩ = some (.int .i64 0) := (blk_cell BK266.out 0).trans rfl
    have hcz18_1 : wr.cell? ⟨gb266, 1, none⟩ = some (.int .i64 0) := (blk_cell BK266.out 1).trans rfl
    have hfz18_0 := blk_frozen BK266.out 0
    have hfz18_1 := blk_frozen BK266.out 1
    go_wp2
    refine bodyPost_ret (results_cell_row rfl _ _ gb266 49 #[.int .i64 x268000_1, .int .i64 x268001_1] (0, 0) _ rfl (by (with_reducible repeat (first | refine blk_drewN ?_ _ | refine blk_drew ?_ | refine blk_alloc ?_ _)); refine blk_put (cs := #[.int .i64 x268000_1, .int .i64 0]) ?_ 1 _ rfl; (with_reducible repeat (first | refine blk_drewN ?_ _ | refine blk_drew ?_ | refine blk_alloc ?_ _)); refine blk_put (cs := #[.int .i64 0, .int .i64 0]) ?_ 0 _ rfl; (with_reducible repeat (first | refine blk_drewN ?_ _ | refine blk_drew ?_ | refine blk_alloc ?_ _)); exact BK266.out) Tryd.underlying49 rfl (by kernel_rfl)) rfl ?_
    exact ⟨by first | rfl | (simp [errW_none, errW_some] <;> rfl) | (simp [*, errW_none, errW_some] <;> rfl), bl_⟩
def waterhourref04_known.f (l0 : List (S51)) (a1 : Int) : Option (Int × Int × Bool) := if a1 < 0 then (some (0, 0, true)) else (if 0 ≤ a1 then (if a1 < (l0.length : Int) then ((waterhourref04_Known.f ((rd_T51 l0 a1).f1.f0) ((rd_T51 l0 a1).f1.f1)).bind fun t274 => (some ((rd_T51 l0 a1).f1.f0, (rd_T51 l0 a1).f1.f1, t274))) else (none)) else (none))
def waterhourref04_known.T3 : Bool × List (List Nat × List Nat) := (true, [([], []), ([], []), ([0, 1], [0, 1]), ([2], [2]), ([3], [3]), ([], []), ([], []), ([5, 6], [5, 6]), ([7], [7]), ([8], [8]), ([9], [9]), ([4, 10, 0, 1, 2, 3, 4], [4]), ([10, 11, 0, 1, 2, 3, 4, 5, 6, 7, 8, 9, 10, 11], [10])])
def waterhourref04_known.B3 : List Nat := [0, 0, 3, 7, 15, 0, 0, 96, 224, 480, 992, 2047, 4095]
theorem waterhourref04_known.tab3 : rtab .any (opsOf Tryd.f96 3) = waterhourref04_known.T3 := by kernel_rfl
theorem waterhourref04_known.bits3 : waitsOk waterhourref04_known.T3.2 waterhourref04_known.B3 = true := by kernel_rfl
set_option maxHeartbeats 8000000 in
set_option maxRecDepth 100000 in
theorem waterhourref04_known.calls (A0 : Option Addr) (c0 : Nat) (l0 : List (S51)) (a1 : Int) (r1 : Int) (r2 : Int) (r3 : Bool) (w : World) (hr0 : Kd.C k51 w A0 l0.length l0) (hc0 : l0.length ≤ c0) (h : waterhourref04_known.f l0 a1 = some (r1, r2, r3)) :
  Calls Tryd.prog 96 #[.slice A0 l0.length c0, .int .i64 a1] w fun e w' => e = .returned (.tuple #[.agg #[.int .i64 r1, .int .i64 r2], .bool r3]) ∧ Below w.heap.size w w' := by
 have hu49 := Tryd.underlying49
 have HR0 := a_ hr0
 have HC0 := a_ hc0
 clear hr0 hc0
 have HB := a_ (Below.refl w.heap.size w)
 have H : (if a1 < 0 then (some (0, 0, true)) else (if 0 ≤ a1 then (if a1 < (l0.length : Int) then ((waterhourref04_Known.f ((rd_T51 l0 a1).f1.f0) ((rd_T51 l0 a1).f1.f1)).bind fun t274 => (some ((rd_T51 l0 a1).f1.f0, (rd_T51 l0 a1).f1.f1, t274))) else (none)) else (none))) = some (r1, r2, r3) := h
 clear h
 by_cases c3 : a1 < 0
 ·rw [if_pos c3] at H
  have c3b0 : decide (a1 < 0) = true := decide_eq_true c3
  clear c3
  simp only [Option.some.injEq, Prod.mk.injEq] at H
  obtain ⟨rfl, rfl, rfl⟩ := H
  go_enter Tryd.func96, Tryd.ntmps96
  go_wp2_with (first | ((with_reducible refine gate_dst (N := 4) rfl ?_); refine box_event ?hg (N := 4) ?hd (cs := #[.int .i64 0, .int .i64 0]) (t := 49) ?hr ?_; (case hd => rfl); (case hg => rfl); (case hr => first | (go_simp; done) | (go_simp; rfl)); intro gb271 hg w4 hbox hb; have n0_ := a_ (below_step bl_ hb); have n1_ := a_ (hbox); have n2_ := a_ ((bz_ (w := w) hg)); have n3_ := a_ ((bz_ (w := w) hg)); clear HB; have HB := n0_; have BK271 := n1_; have GW271 := n2_; have GE271 := n3_; clear n0_ n1_ n2_ n3_; clear hb hbox hg; have hcz5_0 : w4.cell? ⟨gb271, 0, none⟩ = some (.int .i64 0) := (blk_cell BK271.out 0).trans rfl; have hcz5_1 : w4.cell? ⟨gb271, 1, none⟩ = some (.int .i64 0) := (blk_cell BK271.out 1).trans rfl; have hfz5_0 := blk_frozen BK271.out 0; have hfz5_1 := blk_frozen BK271.out 1))
  refine bodyPost_ret (results_ct rfl _ _ gb271 49 #[.int .i64 0, .int .i64 0] (0, 0) _ rfl (by (with_reducible repeat (first | refine blk_drewN ?_ _ | refine blk_drew ?_ | refine blk_alloc ?_ _)); refine blk_put (cs := #[.int .i64 0, .int .i64 0]) ?_ 1 _ rfl; (with_reducible repeat (first | refine blk_drewN ?_ _ | refine blk_drew ?_ | refine blk_alloc ?_ _)); refine blk_put (cs := #[.int .i64 0, .int .i64 0]) ?_ 0 _ rfl; (with_reducible repeat (first | refine blk_drewN ?_ _ | refine blk_drew ?_ | refine blk_alloc ?_ _)); exact BK271.out) Tryd.underlying49 rfl (by kernel_rfl)) rfl ?_
  exact ⟨by first | rfl | (simp [errW_none, errW_some] <;> rfl) | (simp [*, errW_none, errW_some] <;> rfl), bl_⟩
 ·rw [if_neg c3] at H
  have c3b0 : decide (a1 < 0) = false := decide_eq_false c3
  clear c3
  by_cases c6 : 0 ≤ a1
  ·rw [if_pos c6] at H
   have c6b0 : decide (0 ≤ a1) = true := decide_eq_true c6
   clear c6
   by_cases c7 : a1 < (l0.length : Int)
   ·rw [if_pos c7] at H
    have c7b0 : decide (a1 < (l0.length : Int)) = true := decide_eq_true c7
    clear c7
    replace H := Option.bind_eq_some_iff.mp H
    obtain ⟨t274, A80, H⟩ := H
    replace H : (some ((rd_T51 l0 a1).f1.f0, (rd_T51 l0 a1).f1.f1, t274)) = some (r1, r2, r3) := H
    have A8 := a_ A80
    clear A80
    simp only [Option.some.injEq, Prod.mk.injEq] at H
    obtain ⟨rfl, rfl, rfl⟩ := H
    go_enter Tryd.func96, Tryd.ntmps96
    try go_wp2_with (first | ((with_reducible refine gate_dst (N := 4) rfl ?_); refine box_event ?hg (N := 4) ?hd (cs := #[.int .i64 0, .int .i64 0]) (t := 49) ?hr ?_; (case hd => rfl); (case hg => rfl); (case hr => first | (go_simp; done) | (go_simp; rfl)); intro gb271 hg w9 hbox hb; have n0_ := a_ (below_step bl_ hb); have n1_ := a_ (hbox); have n2_ := a_ ((bz_ (w := w) hg)); have n3_ := a_ ((bz_ (w := w) hg)); clear HB; have HB := n0_; have BK271 := n1_; have GW271 := n2_; have GE271 := n3_; clear n0_ n1_ n2_ n3_; clear hb hbox hg))
    have n0_ := a_ (blk_drew BK271.out)
    have n1_ := a_ (below_drew1 HB.out)
    clear BK271
    clear HB
    have BK271 := n0_
    have HB := n1_
    clear n0_ n1_
    have p272 : 0 ≤ (a1 : Int) := of_decide_eq_true (by first | (with_reducible assumption) | assumption)
    have q272 : a1 < (l0.length : Int) := of_decide_eq_true (by first | (with_reducible assumption) | assumption)
    obtain ⟨ad272, e272, hx272_0, hx272_1, hx272_2, hx272_3⟩ := at_T51 HR0.out a1 p272 q272
    have hw272_3 := hx272_3
    have hw272_2 := hx272_2
    have hw272_1 := hx272_1
    have hw272_0 := hx272_0
    cases e272
    replace hx272_0 := (HB.out.cell (World.block_lt_of_cell? w _ hx272_0)).trans hx272_0
    replace hx272_1 := (HB.out.cell (World.block_lt_of_cell? w _ hx272_1)).trans hx272_1
    replace hx272_2 := (HB.out.cell (World.block_lt_of_cell? w _ hx272_2)).trans hx272_2
    replace hx272_3 := (HB.out.cell (World.block_lt_of_cell? w _ hx272_3)).trans hx272_3
    replace p272 := eq_true p272
    replace q272 := eq_true q272
    have p273 : 0 ≤ (a1 : Int) := of_decide_eq_true (by first | (with_reducible assumption) | assumption)
    have q273 : a1 < (l0.length : Int) := of_decide_eq_true (by first | (with_reducible assumption) | assumption)
    obtain ⟨ad273, e273, hx273_0, hx273_1, hx273_2, hx273_3⟩ := at_T51 HR0.out a1 p273 q273
    have hw273_3 := hx273_3
    have hw273_2 := hx273_2
    have hw273_1 := hx273_1
    have hw273_0 := hx273_0
    obtain rfl : ad272 = ad273 := (by injection e273)
    replace hx273_0 := (HB.out.cell (World.block_lt_of_cell? w _ hx273_0)).trans hx273_0
    replace hx273_1 := (HB.out.cell (World.block_lt_of_cell? w _ hx273_1)).trans hx273_1
    replace hx273_2 := (HB.out.cell (World.block_lt_of_cell? w _ hx273_2)).trans hx273_2
    replace hx273_3 := (HB.out.cell (World.block_lt_of_cell? w _ hx273_3)).trans hx273_3
    replace p273 := eq_true p273
    replace q273 := eq_true q273
    refine start_ (n := 13) (S := fun w' => w'.cell? (ad272.add ((a1).toNat * 4)) = some (.int .i64 ((rd_T51 l0 a1).f0.f0)) ∧ w'.cell? ⟨(ad272.add ((a1).toNat * 4)).block, (ad272.add ((a1).toNat * 4)).off + 1, none⟩ = some (.int .i64 ((rd_T51 l0 a1).f0.f1)) ∧ w'.cell? ⟨(ad272.add ((a1).toNat * 4)).block, (ad272.add ((a1).toNat * 4)).off + 2, none⟩ = some (.int .i64 ((rd_T51 l0 a1).f1.f0)) ∧ w'.cell? ⟨(ad272.add ((a1).toNat * 4)).block, (ad272.add ((a1).toNat * 4)).off + 3, none⟩ = some (.int .i64 ((rd_T51 l0 a1).f1.f1)) ∧ w'.cell? (ad272.add ((a1).toNat * 4)) = some (.int .i64 ((rd_T51 l0 a1).f0.f0)) ∧ w'.cell? ⟨(ad272.add ((a1).toNat * 4)).block, (ad272.add ((a1).toNat * 4)).off + 1, none⟩ = some (.int .i64 ((rd_T51 l0 a1).f0.f1)) ∧ w'.cell? ⟨(ad272.add ((a1).toNat * 4)).block, (ad272.add ((a1).toNat * 4)).off + 2, none⟩ = some (.int .i64 ((rd_T51 l0 a1).f1.f0)) ∧ w'.cell? ⟨(ad272.add ((a1).toNat * 4)).block, (ad272.add ((a1).toNat * 4)).off + 3, none⟩ = some (.int .i64 ((rd_T51 l0 a1).f1.f1))) (ds := []) #[false, false, false, false, false, false, false, false, false, false, false, false, false] (by kernel_rfl) rfl rfl ⟨((HB.out.cell (World.block_lt_of_cell? w _ hw272_0)).trans hw272_0), ((HB.out.cell (World.block_lt_of_cell? w _ hw272_1)).trans hw272_1), ((HB.out.cell (World.block_lt_of_cell? w _ hw272_2)).trans hw272_2), ((HB.out.cell (World.block_lt_of_cell? w _ hw272_3)).trans hw272_3), ((HB.out.cell (World.block_lt_of_cell? w _ hw273_0)).trans hw273_0), ((HB.out.cell (World.block_lt_of_cell? w _ hw273_1)).trans hw273_1), ((HB.out.cell (World.block_lt_of_cell? w _ hw273_2)).trans hw273_2), ((HB.out.cell (World.block_lt_of_cell? w _ hw273_3)).trans hw273_3)⟩ (fun hHeld => ?_); refine with_tabW waterhourref04_known.tab3 waterhourref04_known.bits3 (fun HT_ HW_ => ?_)
    generalize w9.drew = w10 at BK271 HB hx272_0 hx272_1 hx272_2 hx272_3 hx273_0 hx273_1 hx273_2 hx273_3 hHeld ⊢
    refine pz_ 0 9 HT_ ?_
    refine pz_ 1 10 HT_ ?_
    refine pz_ 2 11 HT_ ?_
    refine pz_ 3 12 HT_ ?_
    refine pz_ 5 14 HT_ ?_
    refine pz_ 6 15 HT_ ?_
    refine pz_ 7 16 HT_ ?_
    refine pz_ 8 17 HT_ ?_
    refine take_ (i := 4) (N := some 13) (v := ?_) (a' := ?_) #[true, true, true, true, true, true, true, true, true, false, false, false, false] rfl rfl (take_ofW HT_.out HW_.out (by kernel_rfl)) (fun _ _ _ h => h) (Or.inl ⟨by rfl, ?_⟩) hHeld ?_ ?_
    rotate_left
    ·rintro w' ⟨s0, s1, s2, s3, s4, s5, s6, s7⟩
     go_simp
     with_reducible rfl
    rotate_left
    ·simp only [Act.put, List.setIfInBounds_toArray, List.set_cons_zero, List.set_cons_succ, i64_w, i32_w]
     rfl
    refine take_ (i := 9) (N := some 18) (v := ?_) (a' := ?_) #[true, true, true, true, true, true, true, true, true, true, false, false, false] rfl rfl (take_ofW HT_.out HW_.out (by kernel_rfl)) (fun _ _ _ h => h) (Or.inl ⟨by rfl, ?_⟩) hHeld ?_ ?_
    rotate_left
    ·rintro w' ⟨s0, s1, s2, s3, s4, s5, s6, s7⟩
     go_simp
     with_reducible rfl
    rotate_left
    ·simp only [Act.put, List.setIfInBounds_toArray, List.set_cons_zero, List.set_cons_succ, i64_w, i32_w]
     rfl
    refine one_ (i := 10) (N := some 19) #[true, true, true, true, true, true, true, true, true, true, true, false, false] rfl rfl (one_of HT_.out (by kernel_rfl)) (by decide) (fun K hK => ?_)
    refine goes_ Tryd.func38 (by kernel_rfl) rfl #[.agg #[.int .i64 ((rd_T51 l0 a1).f1.f0), .int .i64 ((rd_T51 l0 a1).f1.f1)]] (by rfl) rfl rfl tm_ ?_
    with_reducible refine (waterhourref04_Known.calls ((rd_T51 l0 a1).f1.f0) ((rd_T51 l0 a1).f1.f1) t274 _ A8.out).mono ?_
    rintro e w11 ⟨rfl, hb⟩
    refine ⟨_, rfl, ?_⟩
    have n0_ := a_ (bb_ BK271.out hb)
    have n1_ := a_ (below_step bl_ hb)
    clear BK271
    clear HB
    have BK271 := n0_
    have HB := n1_
    clear n0_ n1_
    (try clear hb)
    (try clear hb2)
    (try clear hk)
    (try clear hi)
    refine hK.out _ _ ⟨((HB.out.cell (World.block_lt_of_cell? w _ hw272_0)).trans hw272_0), ((HB.out.cell (World.block_lt_of_cell? w _ hw272_1)).trans hw272_1), ((HB.out.cell (World.block_lt_of_cell? w _ hw272_2)).trans hw272_2), ((HB.out.cell (World.block_lt_of_cell? w _ hw272_3)).trans hw272_3), ((HB.out.cell (World.block_lt_of_cell? w _ hw273_0)).trans hw273_0), ((HB.out.cell (World.block_lt_of_cell? w _ hw273_1)).trans hw273_1), ((HB.out.cell (World.block_lt_of_cell? w _ hw273_2)).trans hw273_2), ((HB.out.cell (World.block_lt_of_cell? w _ hw273_3)).trans hw273_3)⟩ (fun hHeld => ?_)
    clear hK K
    refine norm_ (a' := ?_) ?_ ?_
    rotate_left
    ·show Act.put _ (some 19) _ = _
     simp only [Act.put, List.setIfInBounds_toArray, List.set_cons_zero, List.set_cons_succ, i64_w, i32_w]
     rfl
    refine one_ (i := 11) (N := none) #[true, true, true, true, true, true, true, true, true, true, true, true, false] rfl rfl (one_of HT_.out (by kernel_rfl)) (by decide) (fun K hK => ?_)
    have hs12 : w11.cell? ⟨gb271, 0, none⟩ = some (.int .i64 0) := (blk_cell BK271.out 0).trans rfl
    have hfs12 := blk_frozen BK271.out 0
    have hs13 : w11.cell? ⟨gb271, 1, none⟩ = some (.int .i64 0) := (blk_cell BK271.out 1).trans rfl
    have hfs13 := blk_frozen BK271.out 1
    refine skip_ (w1 := ?_) (by rfl) rfl ?_ ?_
    rotate_left
    ·go_simp
     rfl
    refine hK.out _ _ ⟨((cell_far (p := ⟨gb271, _, none⟩) (by first | exact Nat.ne_of_lt (Nat.lt_of_lt_of_le (by have := World.block_lt_of_cell? _ _ hw272_0; first | rwa [add_block] at this | exact this) GW271.out) | (rw [add_block]; exact Nat.ne_of_lt (Nat.lt_of_lt_of_le (by have := World.block_lt_of_cell? _ _ hw272_0; first | rwa [add_block] at this | exact this) GW271.out)) | (show (Addr.add _ _).block ≠ _; rw [add_block]; exact Nat.ne_of_lt (Nat.lt_of_lt_of_le (by have := World.block_lt_of_cell? _ _ hw272_0; first | rwa [add_block] at this | exact this) GW271.out)) | (dsimp only; exact Nat.ne_of_lt (Nat.lt_of_lt_of_le (by have := World.block_lt_of_cell? _ _ hw272_0; first | rwa [add_block] at this | exact this) GW271.out))) _).trans (((cell_far (p := ⟨gb271, _, none⟩) (by first | exact Nat.ne_of_lt (Nat.lt_of_lt_of_le (by have := World.block_lt_of_cell? _ _ hw272_0; first | rwa [add_block] at this | exact this) GW271.out) | (rw [add_block]; exact Nat.ne_of_lt (Nat.lt_of_lt_of_le (by have := World.block_lt_of_cell? _ _ hw272_0; first | rwa [add_block] at this | exact this) GW271.out)) | (show (Addr.add _ _).block ≠ _; rw [add_block]; exact Nat.ne_of_lt (Nat.lt_of_lt_of_le (by have := World.block_lt_of_cell? _ _ hw272_0; first | rwa [add_block] at this | exact this) GW271.out)) | (dsimp only; exact Nat.ne_of_lt (Nat.lt_of_lt_of_le (by have := World.block_lt_of_cell? _ _ hw272_0; first | rwa [add_block] at this | exact this) GW271.out))) _).trans (hHeld.1)))), ((cell_far (p := ⟨gb271, _, none⟩) (by first | exact Nat.ne_of_lt (Nat.lt_of_lt_of_le (by have := World.block_lt_of_cell? _ _ hw272_1; first | rwa [add_block] at this | exact this) GW271.out) | (rw [add_block]; exact Nat.ne_of_lt (Nat.lt_of_lt_of_le (by have := World.block_lt_of_cell? _ _ hw272_1; first | rwa [add_block] at this | exact this) GW271.out)) | (show (Addr.add _ _).block ≠ _; rw [add_block]; exact Nat.ne_of_lt (Nat.lt_of_lt_of_le (by have := World.block_lt_of_cell? _ _ hw272_1; first | rwa [add_block] at this | exact this) GW271.out)) | (dsimp only; exact Nat.ne_of_lt (Nat.lt_of_lt_of_le (by have := World.block_lt_of_cell? _ _ hw272_1; first | rwa [add_block] at this | exact this) GW271.out))) _).trans (((cell_far (p := ⟨gb271, _, none⟩) (by first | exact Nat.ne_of_lt (Nat.lt_of_lt_of_le (by have := World.block_lt_of_cell? _ _ hw272_1; first | rwa [add_block] at this | exact this) GW271.out) | (rw [add_block]; exact Nat.ne_of_lt (Nat.lt_of_lt_of_le (by have := World.block_lt_of_cell? _ _ hw272_1; first | rwa [add_block] at this | exact this) GW271.out)) | (show (Addr.add _ _).block ≠ _; rw [add_block]; exact Nat.ne_of_lt (Nat.lt_of_lt_of_le (by have := World.block_lt_of_cell? _ _ hw272_1; first | rwa [add_block] at this | exact this) GW271.out)) | (dsimp only; exact Nat.ne_of_lt (Nat.lt_of_lt_of_le (by have := World.block_lt_of_cell? _ _ hw272_1; first | rwa [add_block] at this | exact this) GW271.out))) _).trans (hHeld.2.1)))), ((cell_far (p := ⟨gb271, _, none⟩) (by first | exact Nat.ne_of_lt (Nat.lt_of_lt_of_le (by have := World.block_lt_of_cell? _ _ hw272_2; first | rwa [add_block] at this | exact this) GW271.out) | (rw [add_block]; exact Nat.ne_of_lt (Nat.lt_of_lt_of_le (by have := World.block_lt_of_cell? _ _ hw272_2; first | rwa [add_block] at this | exact this) GW271.out)) | (show (Addr.add _ _).block ≠ _; rw [add_block]; exact Nat.ne_of_lt (Nat.lt_of_lt_of_le (by have := World.block_lt_of_cell? _ _ hw272_2; first | rwa [add_block] at this | exact this) GW271.out)) | (dsimp only; exact Nat.ne_of_lt (Nat.lt_of_lt_of_le (by have := World.block_lt_of_cell? _ _ hw272_2; first | rwa [add_block] at this | exact this) GW271.out))) _).trans (((cell_far (p := ⟨gb271, _, none⟩) (by first | exact Nat.ne_of_lt (Nat.lt_of_lt_of_le (by have := World.block_lt_of_cell? _ _ hw272_2; first | rwa [add_block] at this | exact this) GW271.out) | (rw [add_block]; exact Nat.ne_of_lt (Nat.lt_of_lt_of_le (by have := World.block_lt_of_cell? _ _ hw272_2; first | rwa [add_block] at this | exact this) GW271.out)) | (show (Addr.add _ _).block ≠ _; rw [add_block]; exact Nat.ne_of_lt (Nat.lt_of_lt_of_le (by have := World.block_lt_of_cell? _ _ hw272_2; first | rwa [add_block] at this | exact this) GW271.out)) | (dsimp only; exact Nat.ne_of_lt (Nat.lt_of_lt_of_le (by have := World.block_lt_of_cell? _ _ hw272_2; first | rwa [add_block] at this | exact this) GW271.out))) _).trans (hHeld.2.2.1)))), ((cell_far (p := ⟨gb271, _, none⟩) (by first | exact Nat.ne_of_lt (Nat.lt_of_lt_of_le (by have := World.block_lt_of_cell? _ _ hw272_3; first | rwa [add_block] at this | exact this) GW271.out) | (rw [add_block]; exact Nat.ne_of_lt (Nat.lt_of_lt_of_le (by have := World.block_lt_of_cell? _ _ hw272_3; first | rwa [add_block] at this | exact this) GW271.out)) | (show (Addr.add _ _).block ≠ _; rw [add_block]; exact Nat.ne_of_lt (Nat.lt_of_lt_of_le (by have := World.block_lt_of_cell? _ _ hw272_3; first | rwa [add_block] at this | exact this) GW271.out)) | (dsimp only; exact Nat.ne_of_lt (Nat.lt_of_lt_of_le (by have := World.block_lt_of_cell? _ _ hw272_3; first | rwa [add_block] at this | exact this) GW271.out))) _).trans (((cell_far (p := ⟨gb271, _, none⟩) (by first | exact Nat.ne_of_lt (Nat.lt_of_lt_of_le (by have := World.block_lt_of_cell? _ _ hw272_3; first | rwa [add_block] at this | exact this) GW271.out) | (rw [add_block]; exact Nat.ne_of_lt (Nat.lt_of_lt_of_le (by have := World.block_lt_of_cell? _ _ hw272_3; first | rwa [add_block] at this | exact this) GW271.out)) | (show (Addr.add _ _).block ≠ _; rw [add_block]; exact Nat.ne_of_lt (Nat.lt_of_lt_of_le (by have := World.block_lt_of_cell? _ _ hw272_3; first | rwa [add_block] at this | exact this) GW271.out)) | (dsimp only; exact Nat.ne_of_lt (Nat.lt_of_lt_of_le (by have := World.block_lt_of_cell? _ _ hw272_3; first | rwa [add_block] at this | exact this) GW271.out))) _).trans (hHeld.2.2.2.1)))), ((cell_far (p := ⟨gb271, _, none⟩) (by first | exact Nat.ne_of_lt (Nat.lt_of_lt_of_le (by have := World.block_lt_of_cell? _ _ hw273_0; first | rwa [add_block] at this | exact this) GW271.out) | (rw [add_block]; exact Nat.ne_of_lt (Nat.lt_of_lt_of_le (by have := World.block_lt_of_cell? _ _ hw273_0; first | rwa [add_block] at this | exact this) GW271.out)) | (show (Addr.add _ _).block ≠ _; rw [add_block]; exact Nat.ne_of_lt (Nat.lt_of_lt_of_le (by have := World.block_lt_of_cell? _ _ hw273_0; first | rwa [add_block] at this | exact this) GW271.out)) | (dsimp only; exact Nat.ne_of_lt (Nat.lt_of_lt_of_le (by have := World.block_lt_of_cell? _ _ hw273_0; first | rwa [add_block] at this | exact this) GW271.out))) _).trans (((cell_far (p := ⟨gb271, _, none⟩) (by first | exact Nat.ne_of_lt (Nat.lt_of_lt_of_le (by have := World.block_lt_of_cell? _ _ hw273_0; first | rwa [add_block] at this | exact this) GW271.out) | (rw [add_block]; exact Nat.ne_of_lt (Nat.lt_of_lt_of_le (by have := World.block_lt_of_cell? _ _ hw273_0; first | rwa [add_block] at this | exact this) GW271.out)) | (show (Addr.add _ _).block ≠ _; rw [add_block]; exact Nat.ne_of_lt (Nat.lt_of_lt_of_le (by have := World.block_lt_of_cell? _ _ hw273_0; first | rwa [add_block] at this | exact this) GW271.out)) | (dsimp only; exact Nat.ne_of_lt (Nat.lt_of_lt_of_le (by have := World.block_lt_of_cell? _ _ hw273_0; first | rwa [add_block] at this | exact this) GW271.out))) _).trans (hHeld.2.2.2.2.1)))), ((cell_far (p := ⟨gb271, _, none⟩) (by first | exact Nat.ne_of_lt (Nat.lt_of_lt_of_le (by have := World.block_lt_of_cell? _ _ hw273_1; first | rwa [add_block] at this | exact this) GW271.out) | (rw [add_block]; exact Nat.ne_of_lt (Nat.lt_of_lt_of_le (by have := World.block_lt_of_cell? _ _ hw273_1; first | rwa [add_block] at this | exact this) GW271.out)) | (show (Addr.add _ _).block ≠ _; rw [add_block]; exact Nat.ne_of_lt (Nat.lt_of_lt_of_le (by have := World.block_lt_of_cell? _ _ hw273_1; first | rwa [add_block] at this | exact this) GW271.out)) | (dsimp only; exact Nat.ne_of_lt (Nat.lt_of_lt_of_le (by have := World.block_lt_of_cell? _ _ hw273_1; first | rwa [add_block] at this | exact this) GW271.out))) _).trans (((cell_far (p := ⟨gb271, _, none⟩) (by first | exact Nat.ne_of_lt (Nat.lt_of_lt_of_le (by have := World.block_lt_of_cell? _ _ hw273_1; first | rwa [add_block] at this | exact this) GW271.out) | (rw [add_block]; exact Nat.ne_of_lt (Nat.lt_of_lt_of_le (by have := World.block_lt_of_cell? _ _ hw273_1; first | rwa [add_block] at this | exact this) GW271.out)) | (show (Addr.add _ _).block ≠ _; rw [add_block]; exact Nat.ne_of_lt (Nat.lt_of_lt_of_le (by have := World.block_lt_of_cell? _ _ hw273_1; first | rwa [add_block] at this | exact this) GW271.out)) | (dsimp only; exact Nat.ne_of_lt (Nat.lt_of_lt_of_le (by have := World.block_lt_of_cell? _ _ hw273_1; first | rwa [add_block] at this | exact this) GW271.out))) _).trans (hHeld.2.2.2.2.2.1)))), ((cell_far (p := ⟨gb271, _, none⟩) (by first | exact Nat.ne_of_lt (Nat.lt_of_lt_of_le (by have := World.block_lt_of_cell? _ _ hw273_2; first | rwa [add_block] at this | exact this) GW271.out) | (rw [add_block]; exact Nat.ne_of_lt (Nat.lt_of_lt_of_le (by have := World.block_lt_of_cell? _ _ hw273_2; first | rwa [add_block] at this | exact this) GW271.out)) | (show (Addr.add _ _).block ≠ _; rw [add_block]; exact Nat.ne_of_lt (Nat.lt_of_lt_of_le (by have := World.block_lt_of_cell? _ _ hw273_2; first | rwa [add_block] at this | exact this) GW271.out)) | (dsimp only; exact Nat.ne_of_lt (Nat.lt_of_lt_of_le (by have := World.block_lt_of_cell? _ _ hw273_2; first | rwa [add_block] at this | exact this) GW271.out))) _).trans (((cell_far (p := ⟨gb271, _, none⟩) (by first | exact Nat.ne_of_lt (Nat.lt_of_lt_of_le (by have := World.block_lt_of_cell? _ _ hw273_2; first | rwa [add_block] at this | exact this) GW271.out) | (rw [add_block]; exact Nat.ne_of_lt (Nat.lt_of_lt_of_le (by have := World.block_lt_of_cell? _ _ hw273_2; first | rwa [add_block] at this | exact this) GW271.out)) | (show (Addr.add _ _).block ≠ _; rw [add_block]; exact Nat.ne_of_lt (Nat.lt_of_lt_of_le (by have := World.block_lt_of_cell? _ _ hw273_2; first | rwa [add_block] at this | exact this) GW271.out)) | (dsimp only; exact Nat.ne_of_lt (Nat.lt_of_lt_of_le (by have := World.block_lt_of_cell? _ _ hw273_2; first | rwa [add_block] at this | exact this) GW271.out))) _).trans (hHeld.2.2.2.2.2.2.1)))), ((cell_far (p := ⟨gb271, _, none⟩) (by first | exact Nat.ne_of_lt (Nat.lt_of_lt_of_le (by have := World.block_lt_of_cell? _ _ hw273_3; first | rwa [add_block] at this | exact this) GW271.out) | (rw [add_block]; exact Nat.ne_of_lt (Nat.lt_of_lt_of_le (by have := World.block_lt_of_cell? _ _ hw273_3; first | rwa [add_block] at this | exact this) GW271.out)) | (show (Addr.add _ _).block ≠ _; rw [add_block]; exact Nat.ne_of_lt (Nat.lt_of_lt_of_le (by have := World.block_lt_of_cell? _ _ hw273_3; first | rwa [add_block] at this | exact this) GW271.out)) | (dsimp only; exact Nat.ne_of_lt (Nat.lt_of_lt_of_le (by have := World.block_lt_of_cell? _ _ hw273_3; first | rwa [add_block] at this | exact this) GW271.out))) _).trans (((cell_far (p := ⟨gb271, _, none⟩) (by first | exact Nat.ne_of_lt (Nat.lt_of_lt_of_le (by have := World.block_lt_of_cell? _ _ hw273_3; first | rwa [add_block] at this | exact this) GW271.out) | (rw [add_block]; exact Nat.ne_of_lt (Nat.lt_of_lt_of_le (by have := World.block_lt_of_cell? _ _ hw273_3; first | rwa [add_block] at this | exact this) GW271.out)) | (show (Addr.add _ _).block ≠ _; rw [add_block]; exact Nat.ne_of_lt (Nat.lt_of_lt_of_le (by have := World.block_lt_of_cell? _ _ hw273_3; first | rwa [add_block] at this | exact this) GW271.out)) | (dsimp only; exact Nat.ne_of_lt (Nat.lt_of_lt_of_le (by have := World.block_lt_of_cell? _ _ hw273_3; first | rwa [add_block] at this | exact this) GW271.out))) _).trans (hHeld.2.2.2.2.2.2.2))))⟩ (fun hHeld => ?_)
    clear hK K
    refine pz_ 12 5 HT_ ?_
    refine done_ (done_of HT_.out (by kernel_rfl)) ?_
    try go_wp2
    refine bodyPost_ret (results_ct rfl _ _ gb271 49 #[.int .i64 ((rd_T51 l0 a1).f1.f0), .int .i64 ((rd_T51 l0 a1).f1.f1)] (0, 0) _ rfl (by (with_reducible repeat (first | refine blk_drewN ?_ _ | refine blk_drew ?_ | refine blk_alloc ?_ _)); refine blk_put (cs := #[.int .i64 ((rd_T51 l0 a1).f1.f0), .int .i64 0]) ?_ 1 _ rfl; (with_reducible repeat (first | refine blk_drewN ?_ _ | refine blk_drew ?_ | refine blk_alloc ?_ _)); refine blk_put (cs := #[.int .i64 0, .int .i64 0]) ?_ 0 _ rfl; (with_reducible repeat (first | refine blk_drewN ?_ _ | refine blk_drew ?_ | refine blk_alloc ?_ _)); exact BK271.out) Tryd.underlying49 rfl (by kernel_rfl)) rfl ?_
    exact ⟨by first | rfl | (simp [errW_none, errW_some] <;> rfl) | (simp [*, errW_none, errW_some] <;> rfl), bl_⟩
   ·rw [if_neg c7] at H
    exact absurd H (by simp)
  ·rw [if_neg c6] at H
   exact absurd H (by simp)
end Go.Proofs.YtgiihjcpgjpkcaaDoor.Q
