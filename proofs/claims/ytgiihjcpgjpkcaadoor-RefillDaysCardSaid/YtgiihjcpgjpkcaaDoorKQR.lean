/- Contracts of functions that RefillDays reaches: each Go function as a plain Lean function and the proof that its call answers just so. -/
import Derived.Test.YtgiihjcpgjpkcaaDoorKQ0
import Derived.Test.YtgiihjcpgjpkcaaDoorKQDb
import Derived.Test.YtgiihjcpgjpkcaaDoorKQDc
import Derived.Test.YtgiihjcpgjpkcaaDoorKQQ
namespace Go.Proofs.YtgiihjcpgjpkcaaDoor.Q
open Go.RowKit Go.Proofs.YtgiihjcpgjpkcaaDoorW.PrintWords Go.Proofs.YtgiihjcpgjpkcaaDoorW.PrintLast Go.Proofs.YtgiihjcpgjpkcaaDoorW.PrintMore
attribute [local go_sem] max2_int min2_int max_two min_two max_three min_three max_four min_four   -- for this text's walks alone
set_option linter.unusedVariables false
set_option linter.unusedSimpArgs false
def waterhourref04_Closed.l0 : Nat → List (S51) → List (S51) → Int → Option ((List (S51)) × Int)
 | 0, _, _, _ => none
 | k + 1, x0, x5, x6 => if x6 < (x0.length : Int) then ((waterhourref04_Between.f k x0 (wrap64 (x6 - 1)) x6).bind fun bt876 => ((waterhourref04_time.f k x0 x6).bind fun bt880 => (if 0 ≤ x6 then (if x6 < (x5.length : Int) then (waterhourref04_Closed.l0 k x0 (x5.set (x6 : Int).toNat (⟨(⟨bt876.1, bt876.2.1⟩ : S49), (⟨bt880.1, bt880.2⟩ : S49)⟩ : S51)) (wrap64 (x6 + 1))) else (none)) else (none)))) else (some (x5, 0))
def waterhourref04_Closed.f (k : Nat) (l0 : List (S51)) : Option ((List (S51)) × Int) := (waterhourref04_first.f k l0 ([] : List Int)).bind fun t872 => (if t872 = 0 then ((waterhourref04_copied.f l0).bind fun t873 => (waterhourref04_Closed.l0 k l0 t873 0)) else (some (([] : List (S51)), t872)))
theorem waterhourref04_Closed.mono_l : ∀ k, (∀ y0 y1 y2, LeO (waterhourref04_Closed.l0 k y0 y1 y2) (waterhourref04_Closed.l0 (k + 1) y0 y1 y2))
 | 0 => fun _ _ _ r h => by simp [waterhourref04_Closed.l0] at h
 | k + 1 => by
  have ih0 := waterhourref04_Closed.mono_l k
  ·intro y0 y1 y2
   unfold waterhourref04_Closed.l0
   repeat' first
   | (with_reducible exact ih0 _ _ _)
   | (with_reducible exact waterhourref04_Between.mono _ _ _ _)
   | (with_reducible exact waterhourref04_first.mono _ _ _)
   | (with_reducible exact waterhourref04_time.mono _ _ _)
   | (with_reducible exact LeO.refl _)
   | (with_reducible exact LeO.none _)
   | (with_reducible refine LeO.ite ?_ ?_)
   | (with_reducible refine LeO.bind ?_ (fun _ => ?_))
   | exact ih0 _ _ _
   | exact waterhourref04_Between.mono _ _ _ _
   | exact waterhourref04_first.mono _ _ _
   | exact waterhourref04_time.mono _ _ _
   | exact LeO.none _
   | refine LeO.ite ?_ ?_
   | refine LeO.bind ?_ (fun _ => ?_)
theorem waterhourref04_Closed.mono : ∀ a0 k, LeO (waterhourref04_Closed.f k a0) (waterhourref04_Closed.f (k + 1) a0) := by
 intro a0 k
 have ih0 := waterhourref04_Closed.mono_l k
 unfold waterhourref04_Closed.f
 repeat' first
   | (with_reducible exact ih0 _ _ _)
   | (with_reducible exact waterhourref04_Between.mono _ _ _ _)
   | (with_reducible exact waterhourref04_first.mono _ _ _)
   | (with_reducible exact waterhourref04_time.mono _ _ _)
   | (with_reducible exact LeO.refl _)
   | (with_reducible exact LeO.none _)
   | (with_reducible refine LeO.ite ?_ ?_)
   | (with_reducible refine LeO.bind ?_ (fun _ => ?_))
   | exact ih0 _ _ _
   | exact waterhourref04_Between.mono _ _ _ _
   | exact waterhourref04_first.mono _ _ _
   | exact waterhourref04_time.mono _ _ _
   | exact LeO.none _
   | refine LeO.ite ?_ ?_
   | refine LeO.bind ?_ (fun _ => ?_)
def waterhourref04_Closed.T9 : Bool × List (List Nat × List Nat) := (true, [([], []), ([], []), ([], []), ([], []), ([], []), ([3, 4], [3, 4]), ([2, 5], [2, 5]), ([0, 1, 0, 1, 2, 3, 4, 5, 6], [0, 1]), ([7, 6, 5, 0, 1, 2, 3, 4, 5, 6], [6, 7])])
def waterhourref04_Closed.B9 : List Nat := [0, 0, 0, 0, 0, 24, 60, 127, 255]
theorem waterhourref04_Closed.tab9 : rtab .any (opsOf Tryd.f57 9) = waterhourref04_Closed.T9 := by kernel_rfl
theorem waterhourref04_Closed.bits9 : waitsOk waterhourref04_Closed.T9.2 waterhourref04_Closed.B9 = true := by kernel_rfl
set_option maxHeartbeats 8000000 in
set_option maxRecDepth 100000 in
theorem waterhourref04_Closed.calls (k : Nat) (A0 : Option Addr) (c0 : Nat) (l0 : List (S51)) (r1 : List (S51)) (r2 : Int) (w : World) (hr0 : Kd.C k51 w A0 l0.length l0) (hc0 : l0.length ≤ c0) (h : waterhourref04_Closed.f k l0 = some (r1, r2)) :
  Calls Tryd.prog 57 #[.slice A0 l0.length c0] w fun e w' => ∃ v0_ : Value, e = .returned (.tuple #[v0_, .int .i64 r2]) ∧ Kd.R k51 51 w' w.heap.size (fun _ => True) v0_ r1 ∧ Below w.heap.size w w' := by
 have hu49 := Tryd.underlying49
 have hu51 := Tryd.underlying51
 have HR0 := a_ hr0
 have HC0 := a_ hc0
 clear hr0 hc0
 have HB := a_ (Below.refl w.heap.size w)
 have H : ((waterhourref04_first.f k l0 ([] : List Int)).bind fun t872 => (if t872 = 0 then ((waterhourref04_copied.f l0).bind fun t873 => (waterhourref04_Closed.l0 k l0 t873 0)) else (some (([] : List (S51)), t872)))) = some (r1, r2) := h
 clear h
 replace H := Option.bind_eq_some_iff.mp H
 obtain ⟨t872, A20, H⟩ := H
 replace H : (if t872 = 0 then ((waterhourref04_copied.f l0).bind fun t873 => (waterhourref04_Closed.l0 k l0 t873 0)) else (some (([] : List (S51)), t872))) = some (r1, r2) := H
 have A2 := a_ A20
 clear A20
 by_cases c3 : t872 = 0
 ·rw [if_pos c3] at H
  have c3b0 : (t872 == 0) = true := beq_iff_eq.mpr c3
  have c3b1 : (t872 != 0) = false := bne_eq_false_iff_eq.mpr c3
  clear c3
  replace H := Option.bind_eq_some_iff.mp H
  obtain ⟨t873, A40, H⟩ := H
  replace H : (waterhourref04_Closed.l0 k l0 t873 0) = some (r1, r2) := H
  have A4 := a_ A40
  clear A40
  have H' := a_ H
  clear H
  go_enter Tryd.func57, Tryd.ntmps57
  go_wp2_with (first | ((with_reducible refine gate_callee (f := 78) rfl ?_); refine goesL_ (some 10) rfl rfl Tryd.func78 (by kernel_rfl) rfl #[.slice A0 l0.length c0, .slice none 0 0] rfl tm_ ?_; (refine (waterhourref04_first.calls k _ _ l0 _ _ ([] : List Int) t872 _ ?side1 ?side2 ?side3 ?side4 A2.out).mono ?_); (case side1 => exact cl_ HR0.out); (case side2 => exact HC0.out); (case side3 => exact Kd.C_nil _ _); (case side4 => exact Nat.le_refl _); rintro e w5 ⟨rfl, hb⟩; refine ⟨_, rfl, ?_⟩; have n0_ := a_ (below_step bl_ hb); clear HB; have HB := n0_; clear n0_; (try clear hb); (try clear hb2); (try clear hk); (try clear hi)) | ((with_reducible refine gate_callee (f := 67) rfl ?_); refine goesL_ (some 15) rfl rfl Tryd.func67 (by kernel_rfl) rfl #[.slice A0 l0.length c0] rfl tm_ ?_; (with_reducible refine (waterhourref04_copied.calls _ _ l0 t873 _ ?side1 ?side2 A4.out).mono ?_); (case side1 => exact cl_ (Kd.C_below HR0.out HB.out)); (case side2 => exact HC0.out); rintro e w6 ⟨v874, rfl, ho0, hb⟩; refine ⟨_, rfl, ?_⟩; have n0_ := a_ (Kd.R_lower ho0 (below_size bl_)); have n1_ := a_ (below_step bl_ hb); clear HB; have HO875 := n0_; have HB := n1_; clear n0_ n1_; (try clear hb); (try clear hb2); (try clear hk); (try clear hi); (try clear ho0)))
  go_loopg [6] k (fun kq v6 w' => ∃ (x5_1 : List (S51)) (x6_1 : Int), v6 = .int .i64 x6_1 ∧ Aside0 (waterhourref04_Closed.l0 kq l0 x5_1 x6_1 = some (r1, r2)) ∧ Aside0 (kq ≤ k) ∧ Aside0 (Kd.R k51 51 w' w.heap.size (fun _ => True) v874 x5_1) ∧ Aside0 (Below w.heap.size w w'))
  case atStart => exact ⟨(t873), (0), (by first | rfl | (simp; done) | (simp [*]; done)), H', ⟨Nat.le_refl _⟩, ⟨rl_ HO875.out⟩, ⟨bl_⟩⟩
  case round =>
   clear H'
   try clear p2
   try clear c3
   try clear c3b0
   try clear c3b1
   try clear c5
   try clear c6
   obtain ⟨x5_1, x6_1, rfl, HA, HK1, HO_5, HB⟩ := hrel
   cases gk with
   | zero => exact absurd HA.out (by simp [waterhourref04_Closed.l0])
   | succ k1 =>
    have H := HA.out
    clear HA
    simp only [waterhourref04_Closed.l0] at H
    by_cases c7 : x6_1 < (l0.length : Int)
    ·rw [if_pos c7] at H
     have c7b0 : decide (x6_1 < (l0.length : Int)) = true := decide_eq_true c7
     clear c7
     replace H := Option.bind_eq_some_iff.mp H
     obtain ⟨⟨t876, t877, t878⟩, A80, H⟩ := H
     replace H : ((waterhourref04_time.f k1 l0 x6_1).bind fun bt880 => (if 0 ≤ x6_1 then (if x6_1 < (x5_1.length : Int) then (waterhourref04_Closed.l0 k1 l0 (x5_1.set (x6_1 : Int).toNat (⟨(⟨t876, t877⟩ : S49), (⟨bt880.1, bt880.2⟩ : S49)⟩ : S51)) (wrap64 (x6_1 + 1))) else (none)) else (none))) = some (r1, r2) := H
     have A8 := a_ A80
     clear A80
     replace H := Option.bind_eq_some_iff.mp H
     obtain ⟨⟨t880, t881⟩, A90, H⟩ := H
     replace H : (if 0 ≤ x6_1 then (if x6_1 < (x5_1.length : Int) then (waterhourref04_Closed.l0 k1 l0 (x5_1.set (x6_1 : Int).toNat (⟨(⟨t876, t877⟩ : S49), (⟨t880, t881⟩ : S49)⟩ : S51)) (wrap64 (x6_1 + 1))) else (none)) else (none)) = some (r1, r2) := H
     have A9 := a_ A90
     clear A90
     by_cases c10 : 0 ≤ x6_1
     ·rw [if_pos c10] at H
      have c10b0 : decide (0 ≤ x6_1) = true := decide_eq_true c10
      clear c10
      by_cases c11 : x6_1 < (x5_1.length : Int)
      ·rw [if_pos c11] at H
       have c11b0 : decide (x6_1 < (x5_1.length : Int)) = true := decide_eq_true c11
       clear c11
       obtain ⟨y882, hy882⟩ : ∃ y_ : List (S51), y_ = (x5_1.set (x6_1 : Int).toNat (⟨(⟨t876, t877⟩ : S49), (⟨t880, t881⟩ : S49)⟩ : S51)) := ⟨_, rfl⟩
       replace H : (waterhourref04_Closed.l0 k1 l0 y882 (wrap64 (x6_1 + 1))) = some (r1, r2) := by first | (rw [hy882]; with_reducible exact H) | (have H2_ := (Option.bind_some _ _).symm.trans H; rw [hy882]; with_reducible exact H2_) | (have H2_ := (Option.bind_some _ _).symm.trans H; with_reducible exact H2_) | with_reducible exact H | (rw [hy882]; exact H) | exact H
       have Ny882 := a_ hy882
       clear hy882
       have H' := a_ H
       clear H
       try go_wp2_with (first | ((with_reducible refine gate_callee (f := 54) rfl ?_); refine goesL_ (some 27) rfl rfl Tryd.func54 (by kernel_rfl) rfl #[.slice A0 l0.length c0, .int .i64 (wrap64 (x6_1 - 1)), .int .i64 x6_1] rfl tm_ ?_; (with_reducible refine (waterhourref04_Between.calls k1 _ _ l0 (wrap64 (x6_1 - 1)) x6_1 t876 t877 t878 _ ?side1 ?side2 A8.out).mono ?_); (case side1 => exact cl_ (Kd.C_below HR0.out HB.out)); (case side2 => exact HC0.out); rintro e w13 ⟨rfl, hb⟩; refine ⟨_, rfl, ?_⟩; have n0_ := a_ (Kd.R_below (rl_ HO_5.out) hb); have n1_ := a_ (below_step bl_ hb); clear HO_5; clear HB; have HO_5 := n0_; have HB := n1_; clear n0_ n1_; (try clear hb); (try clear hb2); (try clear hk); (try clear hi)) | ((with_reducible refine gate_dst (N := 7) rfl ?_); refine box_event ?hg (N := 7) ?hd (cs := #[.int .i64 0, .int .i64 0]) (t := 49) ?hr ?_; (case hd => rfl); (case hg => rfl); (case hr => first | (go_simp; done) | (go_simp; rfl)); intro gb879 hg w14 hbox hb; have n0_ := a_ (Kd.R_below (rl_ HO_5.out) hb); have n1_ := a_ (below_step bl_ hb); have n2_ := a_ (hbox); have n3_ := a_ ((bz_ (w := w) hg)); have n4_ := a_ ((bz_ (w := w) hg)); clear HO_5; clear HB; have HO_5 := n0_; have HB := n1_; have BK879 := n2_; have GW879 := n3_; have GE879 := n4_; clear n0_ n1_ n2_ n3_ n4_; clear hb hbox hg; have hcz15_0 : w14.cell? ⟨gb879, 0, none⟩ = some (.int .i64 0) := (blk_cell BK879.out 0).trans rfl; have hcz15_1 : w14.cell? ⟨gb879, 1, none⟩ = some (.int .i64 0) := (blk_cell BK879.out 1).trans rfl; have hfz15_0 := blk_frozen BK879.out 0; have hfz15_1 := blk_frozen BK879.out 1))
       have n0_ : Aside0 (Kd.R k51 51 ((w14.setCell ⟨gb879, 0, none⟩ (.int .i64 t876)).setCell ⟨gb879, 1, none⟩ (.int .i64 t877)) w.heap.size (fun _ => True) v874 x5_1) := ⟨by (with_reducible repeat (first | apply Kd.R_alloc | apply Kd.R_drewN | apply Kd.R_drew)); exact Kd.R_mono (Kd.R_far (p := ⟨gb879, 1, none⟩) (Kd.R_far (p := ⟨gb879, 0, none⟩) (Kd.R_types HO_5.out BK879.out (by decide)) (fun _ hk => hk.2) (.int .i64 t876)) (fun _ hk => hk.2) (.int .i64 t877)) (fun _ hk => trivial)⟩
       have n1_ : Aside0 (((w14.setCell ⟨gb879, 0, none⟩ (.int .i64 t876)).setCell ⟨gb879, 1, none⟩ (.int .i64 t877)).heap[gb879]? = some (.cells #[.int .i64 t876, .int .i64 t877] 49 (0, 0))) := ⟨by (with_reducible repeat (first | refine blk_drewN ?_ _ | refine blk_drew ?_ | refine blk_alloc ?_ _)); refine blk_put (cs := #[.int .i64 t876, .int .i64 0]) ?_ 1 _ rfl; (with_reducible repeat (first | refine blk_drewN ?_ _ | refine blk_drew ?_ | refine blk_alloc ?_ _)); refine blk_put (cs := #[.int .i64 0, .int .i64 0]) ?_ 0 _ rfl; (with_reducible repeat (first | refine blk_drewN ?_ _ | refine blk_drew ?_ | refine blk_alloc ?_ _)); exact BK879.out⟩
       have n2_ : Aside0 (Below w.heap.size w ((w14.setCell ⟨gb879, 0, none⟩ (.int .i64 t876)).setCell ⟨gb879, 1, none⟩ (.int .i64 t877))) := ⟨bl_⟩
       (try clear HO_5)
       (try clear BK879)
       (try clear HB)
       generalize ((w14.setCell ⟨gb879, 0, none⟩ (.int .i64 t876)).setCell ⟨gb879, 1, none⟩ (.int .i64 t877)) = w16 at n0_ n1_ n2_ ⊢
       have HO_5 := n0_
       have BK879 := n1_
       have HB := n2_
       clear n0_ n1_ n2_
       have n0_ := a_ (Kd.R_drew HO_5.out)
       have n1_ := a_ (blk_drew BK879.out)
       have n2_ := a_ (below_drew1 HB.out)
       clear HO_5
       clear BK879
       clear HB
       have HO_5 := n0_
       have BK879 := n1_
       have HB := n2_
       clear n0_ n1_ n2_
       refine start_ (n := 9) (S := fun w' => w'.cell? ⟨gb879, 0, none⟩ = some (.int .i64 t876) ∧ w'.cell? ⟨gb879, 1, none⟩ = some (.int .i64 t877)) (ds := [8]) #[false, false, false, false, false, false, false, false, false] (by kernel_rfl) rfl rfl ⟨(blk_cell BK879.out 0).trans rfl, (blk_cell BK879.out 1).trans rfl⟩ (fun hHeld => ?_); refine with_tabW waterhourref04_Closed.tab9 waterhourref04_Closed.bits9 (fun HT_ HW_ => ?_)
       generalize w16.drew = w17 at HO_5 BK879 HB hHeld ⊢
       refine pz_ 0 30 HT_ ?_
       refine pz_ 1 31 HT_ ?_
       refine pz_ 3 33 HT_ ?_
       refine pz_ 4 34 HT_ ?_
       refine take_ (i := 2) (N := some 32) (v := ?_) (a' := ?_) #[true, true, true, true, true, false, false, false, false] rfl rfl (take_ofW HT_.out HW_.out (by kernel_rfl)) (fun _ _ _ h => h) (Or.inl ⟨by rfl, ?_⟩) hHeld ?_ ?_
       rotate_left
       ·rintro w' ⟨s0, s1⟩
        go_simp
        with_reducible rfl
       rotate_left
       ·simp only [Act.put, List.setIfInBounds_toArray, List.set_cons_zero, List.set_cons_succ, i64_w, i32_w]
        rfl
       refine one_ (i := 5) (N := some 35) #[true, true, true, true, true, true, false, false, false] rfl rfl (one_of HT_.out (by kernel_rfl)) (by decide) (fun K hK => ?_)
       refine goes_ Tryd.func66 (by kernel_rfl) rfl #[.slice A0 l0.length c0, .int .i64 x6_1] (by rfl) rfl rfl tm_ ?_
       with_reducible refine (waterhourref04_time.calls k1 _ _ l0 x6_1 t880 t881 _ ?side1 ?side2 A9.out).mono ?_
       (case side1 => exact cl_ (Kd.C_below HR0.out HB.out))
       (case side2 => exact HC0.out)
       rintro e w18 ⟨rfl, hb⟩
       refine ⟨_, rfl, ?_⟩
       have n0_ := a_ (Kd.R_below (rl_ HO_5.out) hb)
       have n1_ := a_ (bb_ BK879.out hb)
       have n2_ := a_ (below_step bl_ hb)
       clear HO_5
       clear BK879
       clear HB
       have HO_5 := n0_
       have BK879 := n1_
       have HB := n2_
       clear n0_ n1_ n2_
       (try clear hb)
       (try clear hb2)
       (try clear hk)
       (try clear hi)
       have p12 : 0 ≤ (x6_1 : Int) := of_decide_eq_true (by first | (with_reducible assumption) | assumption)
       have q12 : (x6_1 : Int) < ((x5_1.length : Int) : Int) := of_decide_eq_true (by first | (with_reducible assumption) | assumption)
       obtain ⟨go12, co12, eo12, gb12, gl12, cl12, HG12⟩ := Kd.R_form HO_5.out (by omega)
       (first | cases eo12 | (injection eo12 with ea_ en_ ec_; (first | subst ea_ | (injection ea_ with ea_; subst ea_)); subst ec_; clear en_))
       have GB12 := a_ gb12
       have GG12 := a_ HG12
       clear gb12 gl12 HG12
       obtain ⟨ce12, hcl12, hM12, hcc12, hfr12⟩ := Kd.R_elem HO_5.out z51 (x6_1 : Int) p12 q12
       obtain rfl := k51_openM hM12
       have hx12_0 : World.cell? _ ⟨go12, (x6_1 : Int).toNat * 4, none⟩ = some (.int .i64 ((rd_T51 x5_1 x6_1).f0.f0)) := hcc12 0 _ rfl
       have hx12_1 : World.cell? _ ⟨go12, (x6_1 : Int).toNat * 4 + 1, none⟩ = some (.int .i64 ((rd_T51 x5_1 x6_1).f0.f1)) := hcc12 1 _ rfl
       have hx12_2 : World.cell? _ ⟨go12, (x6_1 : Int).toNat * 4 + 2, none⟩ = some (.int .i64 ((rd_T51 x5_1 x6_1).f1.f0)) := hcc12 2 _ rfl
       have hx12_3 : World.cell? _ ⟨go12, (x6_1 : Int).toNat * 4 + 3, none⟩ = some (.int .i64 ((rd_T51 x5_1 x6_1).f1.f1)) := hcc12 3 _ rfl
       have hf12_0 : World.frozen? _ ⟨go12, (x6_1 : Int).toNat * 4, none⟩ = false := hfr12 0
       have hf12_1 : World.frozen? _ ⟨go12, (x6_1 : Int).toNat * 4 + 1, none⟩ = false := hfr12 1
       have hf12_2 : World.frozen? _ ⟨go12, (x6_1 : Int).toNat * 4 + 2, none⟩ = false := hfr12 2
       have hf12_3 : World.frozen? _ ⟨go12, (x6_1 : Int).toNat * 4 + 3, none⟩ = false := hfr12 3
       clear hcl12 hcc12 hfr12 hM12
       replace p12 := eq_true p12
       replace q12 := eq_true q12
       obtain ⟨ce19, hcl19, hM19, hcc19, hfr19⟩ := Kd.R_elem HO_5.out z51 (x6_1 : Int) (of_decide_eq_true (by first | (with_reducible assumption) | assumption)) (by have h_ : (x6_1 : Int) < ((x5_1.length : Int) : Int) := of_decide_eq_true (by first | (with_reducible assumption) | assumption); first | exact h_ | (have e_ := (Kd.R_reads' HO_5.out).1; omega) | simpa using h_)
       obtain rfl := k51_openM hM19
       have HP19 := (Kd.R_seg HO_5.out (x6_1 : Int) (of_decide_eq_true (by first | (with_reducible assumption) | assumption)) (by have h_ : (x6_1 : Int) < ((x5_1.length : Int) : Int) := of_decide_eq_true (by first | (with_reducible assumption) | assumption); first | exact h_ | (have e_ := (Kd.R_reads' HO_5.out).1; omega) | simpa using h_) (seg := [.int .i64 t876, .int .i64 t877, .int .i64 t880, .int .i64 t881]) (j := 0) hcl19 hcc19 (show 4 ≤ 4 from by decide) (x' := (⟨(⟨t876, t877⟩ : S49), (⟨t880, t881⟩ : S49)⟩ : S51)) (k51_mkM _ _ _ (⟨(⟨t876, t877⟩ : S49), (⟨t880, t881⟩ : S49)⟩ : S51) ) (fun _ hk => hk)).1
       rw [← Ny882.out] at HP19
       have HQ19 := a_ HP19
       clear hcl19 hcc19 hfr19 hM19 HP19
       refine hK.out _ _ ⟨(blk_cell BK879.out 0).trans rfl, (blk_cell BK879.out 1).trans rfl⟩ (fun hHeld => ?_)
       clear hK K
       refine norm_ (a' := ?_) ?_ ?_
       rotate_left
       ·show Act.put _ (some 35) _ = _
        simp only [Act.put, List.setIfInBounds_toArray, List.set_cons_zero, List.set_cons_succ, i64_w, i32_w]
        rfl
       refine pz_ 6 36 HT_ ?_
       refine pz_ 7 37 HT_ ?_
       refine last_ (i := 8) (N := none) #[true, true, true, true, true, true, true, true, true] rfl rfl (one_of HT_.out (by kernel_rfl)) (by decide) (fun K hK => ?_)
       refine skip_ (w1 := ?_) (by rfl) rfl ?_ ?_
       rotate_left
       ·go_simp
        rfl
       refine hK.out _ _ ?_
       clear hK K
       refine done_ (done_of HT_.out (by kernel_rfl)) ?_
       try go_wp2
       go_roundg k1
       case measure => have := HK1.out; omega
       case rel => exact ⟨(y882), (wrap64 (x6_1 + 1)), (by first | rfl | (simp; done) | (simp [*]; done)), H', ⟨by have := HK1.out; omega⟩, ⟨rl_ HQ19.out⟩, ⟨bl_⟩⟩
      ·rw [if_neg c11] at H
       exact absurd H (by simp)
     ·rw [if_neg c10] at H
      exact absurd H (by simp)
    ·rw [if_neg c7] at H
     have c7b0 : decide (x6_1 < (l0.length : Int)) = false := decide_eq_false c7
     clear c7
     simp only [Option.some.injEq, Prod.mk.injEq] at H
     obtain ⟨rfl, rfl⟩ := H
     go_wp2
     go_ret2
     exact ⟨_, by first | rfl | (simp [errW_none, errW_some] <;> rfl) | (simp [*, errW_none, errW_some] <;> rfl), by (with_reducible repeat (first | apply Kd.R_alloc | apply Kd.R_drewN | apply Kd.R_drew)); exact HO_5.out, bl_⟩
 ·rw [if_neg c3] at H
  have c3b0 : (t872 == 0) = false := beq_eq_false_iff_ne.mpr c3
  have c3b1 : (t872 != 0) = true := bne_iff_ne.mpr c3
  simp only [Option.some.injEq, Prod.mk.injEq] at H
  obtain ⟨rfl, rfl⟩ := H
  go_enter Tryd.func57, Tryd.ntmps57
  go_wp2_with (first | ((with_reducible refine gate_callee (f := 78) rfl ?_); refine goesL_ (some 10) rfl rfl Tryd.func78 (by kernel_rfl) rfl #[.slice A0 l0.length c0, .slice none 0 0] rfl tm_ ?_; (refine (waterhourref04_first.calls k _ _ l0 _ _ ([] : List Int) t872 _ ?side1 ?side2 ?side3 ?side4 A2.out).mono ?_); (case side1 => exact cl_ HR0.out); (case side2 => exact HC0.out); (case side3 => exact Kd.C_nil _ _); (case side4 => exact Nat.le_refl _); rintro e w20 ⟨rfl, hb⟩; refine ⟨_, rfl, ?_⟩; have n0_ := a_ (below_step bl_ hb); clear HB; have HB := n0_; clear n0_; (try clear hb); (try clear hb2); (try clear hk); (try clear hi)))
  go_ret2
  exact ⟨_, by first | rfl | (simp [errW_none, errW_some] <;> rfl) | (simp [*, errW_none, errW_some] <;> rfl), by first | exact Kd.R_nil _ _ _ _ _ | exact Kd.N_nil _ _ _ _ _ | exact Kd.V_nil _ _ _ _ _ | exact Kd.Q_nil _ _ _ _ _ | exact Kd.S_nil _ _ _ _ _, bl_⟩
end Go.Proofs.YtgiihjcpgjpkcaaDoor.Q
