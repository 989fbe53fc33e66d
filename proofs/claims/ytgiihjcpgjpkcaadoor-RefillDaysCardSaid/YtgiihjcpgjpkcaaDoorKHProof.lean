/- Contracts walked by hand and lemmas for them, as far as RefillDays needs them. -/
import Derived.Test.YtgiihjcpgjpkcaaDoorKM0
import Derived.Test.YtgiihjcpgjpkcaaDoorKHRegion
import Derived.Deep.RegionHeld
namespace Go.Proofs.YtgiihjcpgjpkcaaDoor.Q
open Go.RowKit Go.Shelf Go.Proofs.YtgiihjcpgjpkcaaDoorW.PrintWords Go.Proofs.YtgiihjcpgjpkcaaDoorW.PrintLast Go.Proofs.YtgiihjcpgjpkcaaDoorW.PrintMore
set_option linter.unusedVariables false
set_option linter.unusedSimpArgs false
attribute [local go_sem] Oper.semAt_some
def prv (d : List S51) (i : Int) (lat : Bool) (bound j : Int) : Bool := if lat = true then decide (thi d j i ≤ bound) else decide (tlo d j i ≥ bound)
theorem proves_eq (d : List S51) (i : Int) (lat : Bool) (bound j : Int) : refill_proves.f (tlo d j i) (thi d j i) lat bound = some (prv d i lat bound j) := by
  unfold refill_proves.f prv
  cases lat <;> rfl
set_option maxHeartbeats 4000000 in
set_option maxRecDepth 100000 in
theorem proof1_any (p3 p4 p5 p10 : Nat) (A : Option Addr) (c : Nat) (d : List S51) (i : Int) (lat : Bool) (bound j : Int) (w : World) (hr : Kd.C k51 w A d.length d) (hc : d.length ≤ c) (hv : vd d = true) (hi : 0 ≤ i) (hi' : i < d.length) (hj : -1 ≤ j) (hj' : j < d.length)
    (l3 : w.cell? ⟨p3, 0, none⟩ = some (.slice A d.length c)) (l4 : w.cell? ⟨p4, 0, none⟩ = some (.int .i64 i)) (l5 : w.cell? ⟨p5, 0, none⟩ = some (.bool lat)) (l10 : w.cell? ⟨p10, 0, none⟩ = some (.int .i64 bound)) :
    Calls Tryd.prog 75 #[.int .i64 j, .agg #[.int .i64 (atOf d j).f0, .int .i64 (atOf d j).f1], .pointer (some ⟨p3, 0, none⟩), .pointer (some ⟨p4, 0, none⟩), .pointer (some ⟨p5, 0, none⟩), .pointer (some ⟨p10, 0, none⟩)] w
      fun e w' => e = .returned (.bool (prv d i lat bound j)) ∧ Below w.heap.size w w' := by
  have hu49 := Tryd.underlying49
  have hte := tells_eq hv (a := j) (i := i) hj hj' (by omega) hi' 33 (Nat.le_refl _)
  have HTE := Aside0.mk hte
  clear hte
  have HR := Aside0.mk hr
  have HC := Aside0.mk hc
  clear hr hc
  have B3 := World.block_lt_of_cell? w _ l3
  have B4 := World.block_lt_of_cell? w _ l4
  have B5 := World.block_lt_of_cell? w _ l5
  have B10 := World.block_lt_of_cell? w _ l10
  go_enter Tryd.func75, Tryd.ntmps75
  go_wp2
  have bb : Below w.heap.size w (w.alloc (.cells #[.int .i64 (atOf d j).f0, .int .i64 (atOf d j).f1] 49)) := below_alloc (Below.refl _ _) _
  have bd : Below w.heap.size w (w.alloc (.cells #[.int .i64 (atOf d j).f0, .int .i64 (atOf d j).f1] 49)).drew := below_drew bb
  have bn := Blk.drew (Blk.new w 49 #[.int .i64 (atOf d j).f0, .int .i64 (atOf d j).f1])
  have hS0 : (fun w' : World => w'.cell? ⟨p3, 0, none⟩ = some (.slice A d.length c) ∧ w'.cell? ⟨p4, 0, none⟩ = some (.int .i64 i) ∧ w'.cell? ⟨p5, 0, none⟩ = some (.bool lat) ∧ w'.cell? ⟨p10, 0, none⟩ = some (.int .i64 bound) ∧ w'.cell? ⟨w.heap.size, 0, none⟩ = some (.int .i64 (atOf d j).f0) ∧ w'.cell? ⟨w.heap.size, 1, none⟩ = some (.int .i64 (atOf d j).f1)) (w.alloc (.cells #[.int .i64 (atOf d j).f0, .int .i64 (atOf d j).f1] 49)).drew :=
    ⟨(bd.cell B3).trans l3, (bd.cell B4).trans l4, (bd.cell B5).trans l5, (bd.cell B10).trans l10, bn.cell 0, bn.cell 1⟩
  refine wp_region_held (S := fun w' : World => w'.cell? ⟨p3, 0, none⟩ = some (.slice A d.length c) ∧ w'.cell? ⟨p4, 0, none⟩ = some (.int .i64 i) ∧ w'.cell? ⟨p5, 0, none⟩ = some (.bool lat) ∧ w'.cell? ⟨p10, 0, none⟩ = some (.int .i64 bound) ∧ w'.cell? ⟨w.heap.size, 0, none⟩ = some (.int .i64 (atOf d j).f0) ∧ w'.cell? ⟨w.heap.size, 1, none⟩ = some (.int .i64 (atOf d j).f1)) (by kernel_rfl) ?_
  show wpAnyH _ _ _ _ _ _ _ _ (w.alloc (.cells #[.int .i64 (atOf d j).f0, .int .i64 (atOf d j).f1] 49)).drew
  clear l3 l4 l5 l10
  refine wpAnyH_take (i := 0) (v := .slice A d.length c) rfl (by kernel_rfl) (by kernel_rfl) (by kernel_rfl) (fun _ _ _ h => h) (Or.inl ⟨by rfl, ?_⟩) hS0 ?_
  · rintro w' ⟨s3, s4, s5, s10, s70, s71⟩
    go_simp
  simp only [Act.put, List.setIfInBounds_toArray, List.set_cons_zero, List.set_cons_succ]
  refine wpAnyH_take (i := 1) (v := .int .i64 j) rfl (by kernel_rfl) (by kernel_rfl) (by kernel_rfl) (fun _ _ _ h => h) (Or.inl ⟨by rfl, ?_⟩) hS0 ?_
  · rintro w' ⟨s3, s4, s5, s10, s70, s71⟩
    go_simp
  simp only [Act.put, List.setIfInBounds_toArray, List.set_cons_zero, List.set_cons_succ]
  refine wpAnyH_take (i := 2) (v := .agg #[.int .i64 (atOf d j).f0, .int .i64 (atOf d j).f1]) rfl (by kernel_rfl) (by kernel_rfl) (by kernel_rfl) (fun _ _ _ h => h) (Or.inl ⟨by rfl, ?_⟩) hS0 ?_
  · rintro w' ⟨s3, s4, s5, s10, s70, s71⟩
    go_simp
  simp only [Act.put, List.setIfInBounds_toArray, List.set_cons_zero, List.set_cons_succ]
  refine wpAnyH_take (i := 3) (v := .int .i64 i) rfl (by kernel_rfl) (by kernel_rfl) (by kernel_rfl) (fun _ _ _ h => h) (Or.inl ⟨by rfl, ?_⟩) hS0 ?_
  · rintro w' ⟨s3, s4, s5, s10, s70, s71⟩
    go_simp
  simp only [Act.put, List.setIfInBounds_toArray, List.set_cons_zero, List.set_cons_succ]
  refine wpAnyH_take (i := 5) (v := .bool lat) rfl (by kernel_rfl) (by kernel_rfl) (by kernel_rfl) (fun _ _ _ h => h) (Or.inl ⟨by rfl, ?_⟩) hS0 ?_
  · rintro w' ⟨s3, s4, s5, s10, s70, s71⟩
    go_simp
  simp only [Act.put, List.setIfInBounds_toArray, List.set_cons_zero, List.set_cons_succ]
  refine wpAnyH_take (i := 6) (v := .int .i64 bound) rfl (by kernel_rfl) (by kernel_rfl) (by kernel_rfl) (fun _ _ _ h => h) (Or.inl ⟨by rfl, ?_⟩) hS0 ?_
  · rintro w' ⟨s3, s4, s5, s10, s70, s71⟩
    go_simp
  simp only [Act.put, List.setIfInBounds_toArray, List.set_cons_zero, List.set_cons_succ]
  refine wpAnyH_ready (rs := [4]) (by kernel_rfl) (by simp) ?_
  refine AllReadyH.cons rfl (fun K hK => ?_) AllReadyH.nil
  have HS0 := Aside0.mk hS0
  clear hS0
  go_simp
  refine (refill_tells.calls 33 A c d _ _ _ _ _ _ _ (Kd.C_below HR.out bd) HC.out HTE.out).mono ?_
  rintro e w1 ⟨rfl, hb1⟩
  have HB1 := Aside0.mk (bd.trans (hb1.mono bd.size))
  obtain ⟨s3, s4, s5, s10, s70, s71⟩ := HS0.out
  refine hK.out _ _ ⟨(hb1.cell (World.block_lt_of_cell? _ _ s3)).trans s3, (hb1.cell (World.block_lt_of_cell? _ _ s4)).trans s4, (hb1.cell (World.block_lt_of_cell? _ _ s5)).trans s5, (hb1.cell (World.block_lt_of_cell? _ _ s10)).trans s10, (hb1.cell (World.block_lt_of_cell? _ _ s70)).trans s70, (hb1.cell (World.block_lt_of_cell? _ _ s71)).trans s71⟩ (fun hS1 => ?_)
  clear hK K s3 s4 s5 s10 s70 s71 HS0 hb1
  refine wpAnyH_ready (rs := [7]) (by kernel_rfl) (by simp) ?_
  refine AllReadyH.cons rfl (fun K hK => ?_) AllReadyH.nil
  have HS1 := Aside0.mk hS1
  clear hS1
  go_simp
  refine (refill_proves.calls _ _ _ _ _ _ (proves_eq d i lat bound j)).mono ?_
  rintro e w2 ⟨rfl, hb2⟩
  have HB2 := Aside0.mk (HB1.out.trans (hb2.mono HB1.out.size))
  obtain ⟨s3, s4, s5, s10, s70, s71⟩ := HS1.out
  refine hK.out _ _ ⟨(hb2.cell (World.block_lt_of_cell? _ _ s3)).trans s3, (hb2.cell (World.block_lt_of_cell? _ _ s4)).trans s4, (hb2.cell (World.block_lt_of_cell? _ _ s5)).trans s5, (hb2.cell (World.block_lt_of_cell? _ _ s10)).trans s10, (hb2.cell (World.block_lt_of_cell? _ _ s70)).trans s70, (hb2.cell (World.block_lt_of_cell? _ _ s71)).trans s71⟩ (fun hS2 => ?_)
  clear hK K s3 s4 s5 s10 s70 s71 HS1 hb2
  refine wpAnyH_ready (rs := [8]) (by kernel_rfl) (by simp) ?_
  refine AllReadyH.cons rfl (fun K hK => ?_) AllReadyH.nil
  have HS2 := Aside0.mk hS2
  clear hS2
  go_simp
  refine hK.out _ _ HS2.out (fun _ => ?_)
  clear hK K HS2
  refine wpAnyH_done (by kernel_rfl) ?_ _
  go_wp2
  go_ret
  exact ⟨rfl, HB2.out⟩
def firstIn (d : List S51) (i : Int) (lat : Bool) (bound : Int) (l : List (Ix d)) : Option (Ix d) := l.find? fun j => prv d i lat bound j.1
def firstOf (d : List S51) (i : Int) (lat : Bool) (bound : Int) : Int := match firstIn d i lat bound (upK d false (d.length + 1)) with
  | some j => j.1
  | none => 0
theorem firstIn_snoc (d : List S51) (i : Int) (lat : Bool) (bound : Int) (l : List (Ix d)) (x : Ix d) (h : firstIn d i lat bound l = none) : firstIn d i lat bound (l ++ [x]) = if prv d i lat bound x.1 = true then some x else none := by
  unfold firstIn at *
  rw [List.find?_append, h]
  by_cases e : prv d i lat bound x.1 = true <;> simp [e]
theorem firstIn_more {d : List S51} {i : Int} {lat : Bool} {bound : Int} {k n : Nat} {x : Ix d} (hk : k ≤ n) (h : firstIn d i lat bound (upK d false k) = some x) : firstIn d i lat bound (upK d false n) = some x := by
  obtain ⟨r, hr⟩ := upK_add d false k (n - k)
  rw [show k + (n - k) = n from by omega] at hr
  rw [hr]
  unfold firstIn at *
  rw [List.find?_append, h]
  rfl
set_option maxRecDepth 100000 in
set_option maxHeartbeats 8000000 in
theorem first_in (n : Nat) (hn : 6 ≤ n) (B p3 p4 p5 p10 : Nat) (A : Option Addr) (c : Nat) (d : List S51) (i : Int) (lat : Bool) (bound : Int) (w : World) (hr : Kd.C k51 w A d.length d) (hc : d.length ≤ c) (hv : vd d = true) (hi : 0 ≤ i) (hi' : i < d.length)
    (hB : B + 2 ≤ w.heap.size) (m0 : w.cell? ⟨B, 0, none⟩ = some (.slice A d.length c)) (m1 : w.cell? ⟨B + 1, 0, none⟩ = some (.bool false))
    (l3 : w.cell? ⟨p3, 0, none⟩ = some (.slice A d.length c)) (l4 : w.cell? ⟨p4, 0, none⟩ = some (.int .i64 i)) (l5 : w.cell? ⟨p5, 0, none⟩ = some (.bool lat)) (l10 : w.cell? ⟨p10, 0, none⟩ = some (.int .i64 bound)) :
    CallsIn Fence.wide n Tryd.prog 73 #[.func (.func 98) #[] #[.pointer (some ⟨B, 0, none⟩), .pointer (some ⟨B + 1, 0, none⟩)], .func (.func 75) #[] #[.pointer (some ⟨p3, 0, none⟩), .pointer (some ⟨p4, 0, none⟩), .pointer (some ⟨p5, 0, none⟩), .pointer (some ⟨p10, 0, none⟩)]] w fun e w' => e = .returned (.int .i64 (firstOf d i lat bound)) ∧ Below w.heap.size w w' := by
  have h1 : 1 ≤ n := by omega
  have hu49 := Tryd.underlying49
  have hd : d.length ≤ 1000000 := by have := (vd_iff.1 hv).2.1; omega
  have B3 := World.block_lt_of_cell? w _ l3
  have B4 := World.block_lt_of_cell? w _ l4
  have B5 := World.block_lt_of_cell? w _ l5
  have B10 := World.block_lt_of_cell? w _ l10
  have M0 := Aside0.mk m0
  have M1 := Aside0.mk m1
  have L3 := Aside0.mk l3
  have L4 := Aside0.mk l4
  have L5 := Aside0.mk l5
  have L10 := Aside0.mk l10
  clear m0 m1 l3 l4 l5 l10
  refine callsIn_of_wp_marks Tryd.func73 rfl trivial ?_ rfl
  simp only [Tryd.ntmps73, List.size_toArray, List.length_cons, List.length_nil, Nat.reduceAdd, Nat.reduceSub, Array.replicate_succ, Array.replicate_zero, List.push_toArray, List.append_toArray, List.nil_append, List.cons_append]
  gi_wp2
  have hB0 : Below w.heap.size w ((w.alloc (.cells #[.func (.func 75) #[] #[.pointer (some ⟨p3, 0, none⟩), .pointer (some ⟨p4, 0, none⟩), .pointer (some ⟨p5, 0, none⟩), .pointer (some ⟨p10, 0, none⟩)]] 92)).alloc (.cells #[.int .i64 0] 3)) := below_alloc (below_alloc (Below.refl _ _) _) _
  have b0 := (Blk.new w 92 #[.func (.func 75) #[] #[.pointer (some ⟨p3, 0, none⟩), .pointer (some ⟨p4, 0, none⟩), .pointer (some ⟨p5, 0, none⟩), .pointer (some ⟨p10, 0, none⟩)]]).alloc (.cells #[.int .i64 0] 3)
  have b1 := Blk.new (w.alloc (.cells #[.func (.func 75) #[] #[.pointer (some ⟨p3, 0, none⟩), .pointer (some ⟨p4, 0, none⟩), .pointer (some ⟨p5, 0, none⟩), .pointer (some ⟨p10, 0, none⟩)]] 92)) 3 #[.int .i64 0]
  simp only [World.size_alloc] at b0 b1
  have hsz : ((w.alloc (.cells #[.func (.func 75) #[] #[.pointer (some ⟨p3, 0, none⟩), .pointer (some ⟨p4, 0, none⟩), .pointer (some ⟨p5, 0, none⟩), .pointer (some ⟨p10, 0, none⟩)]] 92)).alloc (.cells #[.int .i64 0] 3)).heap.size = w.heap.size + 2 := by simp
  obtain ⟨W0, hW0⟩ : ∃ W0, ((w.alloc (.cells #[.func (.func 75) #[] #[.pointer (some ⟨p3, 0, none⟩), .pointer (some ⟨p4, 0, none⟩), .pointer (some ⟨p5, 0, none⟩), .pointer (some ⟨p10, 0, none⟩)]] 92)).alloc (.cells #[.int .i64 0] 3)) = W0 := ⟨_, rfl⟩
  rw [hW0] at hB0 b0 b1 hsz ⊢
  clear hW0
  refine wpIn_rangeFunc_ownH rfl h1 (gf := 98) (lb := #[.pointer (some ⟨B, 0, none⟩), .pointer (some ⟨B + 1, 0, none⟩)]) rfl trivial (enters_of Tryd.func98 (by kernel_rfl) rfl)
    (known_stops (n - 1) (by omega) B w.heap.size A c d false hd hc W0 (by omega) (by omega) ((hB0.cell (p := ⟨B, 0, none⟩) (by dsimp only; omega)).trans M0.out) ((hB0.cell (p := ⟨B + 1, 0, none⟩) (by dsimp only; omega)).trans M1.out) (fun W' hb => Kd.C_below hr (hB0.trans hb)))
    KpB.trans (KpB.putObj (by omega) (by omega)) (Below.refl _ _) (fun _ => rfl)
    (fun pre W => ((firstIn d i lat bound pre = none ∧ Blk W (w.heap.size) 92 #[.func (.func 75) #[] #[.pointer (some ⟨p3, 0, none⟩), .pointer (some ⟨p4, 0, none⟩), .pointer (some ⟨p5, 0, none⟩), .pointer (some ⟨p10, 0, none⟩)]]) ∧ Blk W (w.heap.size + 1) 3 #[.int .i64 0]) ∧ Below w.heap.size w W)
    (fun cd pre W => (∃ j : Ix d, (cd = .ret ∧ firstIn d i lat bound pre = some j) ∧ Blk W (w.heap.size + 1) 3 #[.int .i64 j.1]) ∧ Below w.heap.size w W)
    (OwnFrom.and (OwnFrom.and (OwnFrom.and (ownFrom_pure _ _) (Own.from (blk_own _ _ _) _)) (Own.from (blk_own _ _ _) _)) (ownFrom_below (Nat.le_refl _) (by omega)))
    (fun cd => OwnFrom.and (fun s X Y row hs hg hr => by obtain ⟨p, h1, h2⟩ := hs; exact ⟨p, h1, blk_own _ _ (fun (_ : Unit) => #[Value.int .i64 p.1]) () X Y row h2 hg (fun r e => (hr r e).2)⟩) (ownFrom_below (Nat.le_refl _) (by omega)))
    ⟨⟨⟨rfl, b0⟩, b1⟩, hB0⟩
    (fun x a' W => ∃ By, w.heap.size + 1 < By ∧ Blk W By 49 #[.int .i64 (atOf d x.1).f0, .int .i64 (atOf d x.1).f1] ∧ a' = { tmps := #[.func (.func 98) #[] #[.pointer (some ⟨B, 0, none⟩), .pointer (some ⟨B + 1, 0, none⟩)], .func (.func 75) #[] #[.pointer (some ⟨p3, 0, none⟩), .pointer (some ⟨p4, 0, none⟩), .pointer (some ⟨p5, 0, none⟩), .pointer (some ⟨p10, 0, none⟩)], undef, .pointer (some ⟨w.heap.size, 0, none⟩), .pointer (some ⟨w.heap.size + 1, 0, none⟩), .int .i64 x.1, .pointer (some ⟨By, 0, none⟩), .func (.func 98) #[] #[.pointer (some ⟨B, 0, none⟩), .pointer (some ⟨B + 1, 0, none⟩)], .int .i64 x.1, .agg #[.int .i64 (atOf d x.1).f0, .int .i64 (atOf d x.1).f1], undef, undef, undef, undef, undef, undef], defers := [] })
    (fun x a' _ X Y row hs hg hr => by obtain ⟨By, h1, h2, h4⟩ := hs; exact ⟨By, h1, blk_own _ _ (fun (_ : Unit) => #[Value.int .i64 (atOf d x.1).f0, Value.int .i64 (atOf d x.1).f1]) () X Y row h2 hg (fun r e => (hr r e).2), h4⟩)
    ?assign ?body ?done ?stop
  case assign =>
    rintro l pre x W K ⟨⟨⟨hp, c0⟩, c1⟩, hB1⟩ hK
    have hlt := c1.lt
    have HP := Aside0.mk hp
    clear hp
    gi_wp2
    exact hK _ _ ((KeepsOthers.alloc _ _).from _) (KpB.alloc (by omega) (by omega) _) ⟨⟨⟨HP.out, c0.alloc _⟩, c1.alloc _⟩, hB1.alloc (by omega) _⟩ ⟨W.heap.size, by omega, Blk.new W 49 _, rfl⟩
  case body =>
    rintro l pre x a' W hl ⟨r, hr'⟩ ⟨⟨⟨hp, c0⟩, c1⟩, hB1⟩ ⟨By, hBy, bY, rfl⟩ hlen
    have HP := Aside0.mk hp
    clear hp
    have hlt := c1.lt
    have l0 : W.cell? ⟨w.heap.size, 0, none⟩ = some (.func (.func 75) #[] #[.pointer (some ⟨p3, 0, none⟩), .pointer (some ⟨p4, 0, none⟩), .pointer (some ⟨p5, 0, none⟩), .pointer (some ⟨p10, 0, none⟩)]) := c0.cell 0
    have lY0 : W.cell? ⟨By, 0, none⟩ = some (.int .i64 (atOf d x.1).f0) := bY.cell 0
    have lY1 : W.cell? ⟨By, 1, none⟩ = some (.int .i64 (atOf d x.1).f1) := bY.cell 1
    have hsn := firstIn_snoc d i lat bound pre x HP.out
    have hcl := proof1_any p3 p4 p5 p10 A c d i lat bound x.1 W (Kd.C_below hr hB1) hc hv hi hi' x.2.1 x.2.2.1 ((hB1.cell B3).trans L3.out) ((hB1.cell B4).trans L4.out) ((hB1.cell B5).trans L5.out) ((hB1.cell B10).trans L10.out)
    have h1' : 1 ≤ n - 1 - 1 := by omega
    cases hpr : prv d i lat bound x.1
    · rw [hpr] at hcl hsn
      have HCL := Aside0.mk hcl
      have HSN := Aside0.mk hsn
      clear hcl hsn hpr
      gi_wp2_with fail
      refine ⟨trivial, ?_⟩
      gi_at_call 75
      refine (CallsIn.inRound l (callsIn_wide.2 HCL.out)).mono ?_
      rintro e w1 ⟨rfl, hb1⟩
      gi_wp2
      exact ⟨(KeepsOthers.of_below hb1).from _, KpB.of_below hb1 (by omega) (by omega), ⟨⟨⟨by rw [HSN.out]; rfl, c0.below' hb1⟩, c1.below' hb1⟩, hB1.trans (hb1.mono hB1.size)⟩⟩
    · rw [hpr] at hcl hsn
      have HCL := Aside0.mk hcl
      have HSN := Aside0.mk hsn
      clear hcl hsn hpr
      gi_wp2_with fail
      refine ⟨trivial, ?_⟩
      gi_at_call 75
      refine (CallsIn.inRound l (callsIn_wide.2 HCL.out)).mono ?_
      rintro e w1 ⟨rfl, hb1⟩
      have k1 := c1.below' hb1
      have f1 := k1.frozen 0
      have m1 : w1.cell? ⟨w.heap.size + 1, 0, none⟩ = some (.int .i64 0) := k1.cell 0
      gi_wp2
      exact ⟨((KeepsOthers.of_below hb1).trans (KeepsOthers.setCell _ _ _)).from _, ⟨x, ⟨rfl, by rw [HSN.out]; rfl⟩, k1.set_ 0 _⟩, (hB1.trans (hb1.mono hB1.size)).setCell (p := ⟨w.heap.size + 1, 0, none⟩) (by dsimp only; omega) _⟩
  case done =>
    rintro D zs W hD rfl ⟨⟨⟨hp, c0⟩, c1⟩, hB1⟩ hK
    have hres : firstOf d i lat bound = 0 := by unfold firstOf; rw [hp]
    have HRES := Aside0.mk hres
    clear hp hres
    have f1 := c1.frozen 0
    have l1 : W.cell? ⟨w.heap.size + 1, 0, none⟩ = some (.int .i64 0) := c1.cell 0
    gi_wp2
    have hK1 := (KeepsOthers.setCell W ⟨w.heap.size + 1, 0, none⟩ (.int .i64 0)).same D _ hK rfl
    have q1 := c1.set_ 0 (.int .i64 0)
    refine ⟨by simp, .inl ⟨_, _, rfl, run_takeDeferred hK1, ?_⟩⟩
    have z1 := cell_kept (show _ = some (Value.int .i64 0) from q1.cell 0) (grownBy_putObj' _ D (.deferred none)) (fun r e => by cases e; exact ⟨_, hK1, rfl⟩)
    refine ⟨.int .i64 0, ?_, by rw [HRES.out], (hB1.setCell (p := ⟨w.heap.size + 1, 0, none⟩) (by dsimp only; omega) _).trans (belowK_b (w := w) (Nat.le_refl _) _ D _ _ (by omega) hK1 rfl rfl)⟩
    simp [results, Tryd.f73, go_sem, z1]
  case stop =>
    rintro D cd pre W hD ⟨k, hk, rfl⟩ ⟨⟨j, ⟨rfl, hp⟩, c1⟩, hB1⟩ hK
    have hres : firstOf d i lat bound = j.1 := by unfold firstOf; rw [firstIn_more hk hp]
    have HRES := Aside0.mk hres
    clear hp hres
    gi_wp2
    refine ⟨by simp, .inl ⟨_, _, rfl, run_takeDeferred hK, ?_⟩⟩
    have z1 := cell_kept (show _ = some (Value.int .i64 j.1) from c1.cell 0) (grownBy_putObj' _ D (.deferred none)) (fun r e => by cases e; exact ⟨_, hK, rfl⟩)
    refine ⟨.int .i64 j.1, ?_, by rw [HRES.out], hB1.trans (belowK_b (w := w) (Nat.le_refl _) W D _ _ (by omega) hK rfl rfl)⟩
    simp [results, Tryd.f73, go_sem, z1]
def readyA (d : List S51) (i : Int) : Int := if vd d = true then (if 0 ≤ i ∧ i < d.length then (if (clashOf d).2.2 = true then 31 else 0) else 1) else 40
theorem ready_A (d : List S51) (i : Int) (k : Nat) (hk : 40 ≤ k) : refill_ready.f k d 0 [i] = some (readyA d i) := by
  rw [ready_eq d 0 [i] (by simp) k hk]
  unfold readyA inds
  simp
theorem readsInt_one (w : World) (g : Nat) (i : Int) (h : w.cell? ⟨g, 0, none⟩ = some (.int .i64 i)) : Kd.C (Kd.int .i64) w (some ⟨g, 0, none⟩) 1 [i] :=
  Kd.C_of_reads (d := (0 : Int)) (h1 := fun _ => rfl) ⟨rfl, by omega, fun _ => ⟨_, rfl, fun j hj => by
    obtain rfl : j = 0 := by omega
    exact h⟩⟩
def boundOf (d : List S51) (i : Int) (lat : Bool) : Int := if lat = true then (timeOf d i).2 else (timeOf d i).1
def refill_Proof.f (l0 : List S51) (a1 : Int) (a2 : Bool) : Option (Int × Int) := some (if readyA l0 a1 = 0 then firstOf l0 a1 a2 (boundOf l0 a1 a2) else 0, readyA l0 a1)
set_option maxHeartbeats 8000000 in
set_option maxRecDepth 100000 in
theorem refill_Proof.calls (A0 : Option Addr) (c0 : Nat) (l0 : List S51) (a1 : Int) (a2 : Bool) (r1 : Int) (r2 : Int) (w : World) (hr0 : Kd.C k51 w A0 l0.length l0) (hc0 : l0.length ≤ c0) (h : refill_Proof.f l0 a1 a2 = some (r1, r2)) :
    Calls Tryd.prog 27 #[.slice A0 l0.length c0, .int .i64 a1, .bool a2] w fun e w' => e = .returned (.tuple #[.int .i64 r1, .int .i64 r2]) ∧ Below w.heap.size w w' := by
  unfold refill_Proof.f at h
  simp only [Option.some.injEq, Prod.mk.injEq] at h
  obtain ⟨h1, h2⟩ := h
  have hu49 := Tryd.underlying49
  have hrd := ready_A l0 a1 40 (Nat.le_refl _)
  have HR0 := Aside0.mk hr0
  have HC0 := Aside0.mk hc0
  clear hr0 hc0
  have B3 : Below w.heap.size w ((((w.alloc (.cells #[.slice A0 l0.length c0] 23)).alloc (.cells #[.int .i64 a1] 3)).alloc (.cells #[.bool a2] 4)).alloc (.cells #[.int .i64 a1] 3)) := by
    repeat (first | exact Below.refl _ _ | refine below_alloc ?_ _)
  have b0 := (((Blk.new w 23 #[.slice A0 l0.length c0]).alloc (.cells #[.int .i64 a1] 3)).alloc (.cells #[.bool a2] 4)).alloc (.cells #[.int .i64 a1] 3)
  have b1 := ((Blk.new (w.alloc (.cells #[.slice A0 l0.length c0] 23)) 3 #[.int .i64 a1]).alloc (.cells #[.bool a2] 4)).alloc (.cells #[.int .i64 a1] 3)
  have b2 := (Blk.new ((w.alloc (.cells #[.slice A0 l0.length c0] 23)).alloc (.cells #[.int .i64 a1] 3)) 4 #[.bool a2]).alloc (.cells #[.int .i64 a1] 3)
  have b3 := Blk.new (((w.alloc (.cells #[.slice A0 l0.length c0] 23)).alloc (.cells #[.int .i64 a1] 3)).alloc (.cells #[.bool a2] 4)) 3 #[.int .i64 a1]
  simp only [World.size_alloc] at b0 b1 b2 b3
  have NB0 := Aside0.mk b0
  have NB1 := Aside0.mk b1
  have NB2 := Aside0.mk b2
  have NB3 := Aside0.mk b3
  have BB3 := Aside0.mk B3
  clear b0 b1 b2 b3 B3
  by_cases h0 : readyA l0 a1 = 0
  · have hv : vd l0 = true := by
      unfold readyA at h0
      by_cases hv : vd l0 = true
      · exact hv
      · rw [if_neg hv] at h0; omega
    have hi : 0 ≤ a1 ∧ a1 < l0.length := by
      unfold readyA at h0
      rw [if_pos hv] at h0
      by_cases hi : 0 ≤ a1 ∧ a1 < l0.length
      · exact hi
      · rw [if_neg hi] at h0; omega
    rw [if_pos h0] at h1
    rw [h0] at hrd h2
    subst h2
    have hf : refill_time.f l0 a1 = some ((timeOf l0 a1).1, (timeOf l0 a1).2) := by
      unfold refill_time.f
      rw [if_pos ⟨hv, hi.1, hi.2⟩]
    have HF := Aside0.mk hf
    have HRD := Aside0.mk hrd
    have H1 := Aside0.mk h1
    have HV := Aside0.mk hv
    have HI := Aside0.mk hi
    clear hf hrd h1 hv hi h0
    cases a2
    all_goals
      go_enter Tryd.func27, Tryd.ntmps27
      go_wp2_with fail
      refine (refill_ready.calls 40 _ _ l0 _ _ _ [a1] _ _ (Kd.C_below HR0.out BB3.out) HC0.out (readsInt_one _ _ _ (NB3.out.cell 0)) (Nat.le_refl _) HRD.out).mono ?_
      rintro e w4 ⟨rfl, hb4⟩
      have BB4 := Aside0.mk (BB3.out.trans (hb4.mono BB3.out.size))
      have k0 := NB0.out.below' hb4
      have k1 := NB1.out.below' hb4
      have k2 := NB2.out.below' hb4
      clear hb4
      have l0' : w4.cell? ⟨w.heap.size, 0, none⟩ = some (.slice A0 l0.length c0) := k0.cell 0
      have l1' : w4.cell? ⟨w.heap.size + 1, 0, none⟩ = some (.int .i64 a1) := k1.cell 0
      go_wp2_with fail
      refine (refill_time.calls _ _ l0 _ _ _ _ (Kd.C_below HR0.out BB4.out) HC0.out HF.out).mono ?_
      rintro e w5 ⟨rfl, hb5⟩
      have BB5 := Aside0.mk (BB4.out.trans (hb5.mono BB4.out.size))
      have q0 := k0.below' hb5
      have q1 := k1.below' hb5
      have q2 := k2.below' hb5
      clear hb5 l0' l1' k0 k1 k2
      have l0' : w5.cell? ⟨w.heap.size, 0, none⟩ = some (.slice A0 l0.length c0) := q0.cell 0
      have l2' := q2.cell 0
      simp only [List.getElem?_toArray, List.getElem?_cons_zero] at l2'
      have z0 := q0.lt
      have z1 := q1.lt
      have z2 := q2.lt
      go_wp2_with fail
      refine (callsIn_wide.1 (known_in 9 _ _ _ _ _)).mono ?_
      rintro e w6 ⟨rfl, rfl⟩
      go_wp2_with fail
      have bx : ∀ u : Int, Below w5.heap.size w5 ((((w5.alloc (.cells #[.int .i64 (timeOf l0 a1).1, .int .i64 (timeOf l0 a1).2] 49)).alloc (.cells #[.int .i64 u] 3)).alloc (.cells #[.slice A0 l0.length c0] 23)).alloc (.cells #[.bool false] 4)) := fun u => by
        repeat (first | exact Below.refl _ _ | refine below_alloc ?_ _)
      have n10 : ∀ u : Int, Blk ((((w5.alloc (.cells #[.int .i64 (timeOf l0 a1).1, .int .i64 (timeOf l0 a1).2] 49)).alloc (.cells #[.int .i64 u] 3)).alloc (.cells #[.slice A0 l0.length c0] 23)).alloc (.cells #[.bool false] 4)) (w5.heap.size + 1) 3 #[.int .i64 u] := fun u => by
        have := ((Blk.new (w5.alloc (.cells #[.int .i64 (timeOf l0 a1).1, .int .i64 (timeOf l0 a1).2] 49)) 3 #[.int .i64 u]).alloc (.cells #[.slice A0 l0.length c0] 23)).alloc (.cells #[.bool false] 4)
        rwa [World.size_alloc] at this
      have nB : ∀ u : Int, Blk ((((w5.alloc (.cells #[.int .i64 (timeOf l0 a1).1, .int .i64 (timeOf l0 a1).2] 49)).alloc (.cells #[.int .i64 u] 3)).alloc (.cells #[.slice A0 l0.length c0] 23)).alloc (.cells #[.bool false] 4)) (w5.heap.size + 1 + 1) 23 #[.slice A0 l0.length c0] := fun u => by
        have := (Blk.new ((w5.alloc (.cells #[.int .i64 (timeOf l0 a1).1, .int .i64 (timeOf l0 a1).2] 49)).alloc (.cells #[.int .i64 u] 3)) 23 #[.slice A0 l0.length c0]).alloc (.cells #[.bool false] 4)
        rwa [World.size_alloc, World.size_alloc] at this
      have nC : ∀ u : Int, Blk ((((w5.alloc (.cells #[.int .i64 (timeOf l0 a1).1, .int .i64 (timeOf l0 a1).2] 49)).alloc (.cells #[.int .i64 u] 3)).alloc (.cells #[.slice A0 l0.length c0] 23)).alloc (.cells #[.bool false] 4)) (w5.heap.size + 1 + 1 + 1) 4 #[.bool false] := fun u => by
        have := Blk.new (((w5.alloc (.cells #[.int .i64 (timeOf l0 a1).1, .int .i64 (timeOf l0 a1).2] 49)).alloc (.cells #[.int .i64 u] 3)).alloc (.cells #[.slice A0 l0.length c0] 23)) 4 #[.bool false]
        rwa [World.size_alloc, World.size_alloc, World.size_alloc] at this
      refine (callsIn_wide.1 (first_in 6 (Nat.le_refl _) (w5.heap.size + 1 + 1) w.heap.size (w.heap.size + 1) (w.heap.size + 1 + 1) (w5.heap.size + 1) A0 c0 l0 a1 _ _ _ (Kd.C_below HR0.out (BB5.out.trans ((bx _).mono BB5.out.size))) HC0.out HV.out HI.out.1 HI.out.2 (by simp) ((nB _).cell 0) ((nC _).cell 0) (((bx _).cell (p := ⟨w.heap.size, 0, none⟩) z0).trans (q0.cell 0)) (((bx _).cell (p := ⟨w.heap.size + 1, 0, none⟩) z1).trans (q1.cell 0)) (((bx _).cell (p := ⟨w.heap.size + 1 + 1, 0, none⟩) z2).trans (q2.cell 0)) ((n10 _).cell 0))).mono ?_
      rintro e w7 ⟨rfl, hb7⟩
      have BB7 := Aside0.mk ((BB5.out.trans ((bx _).mono BB5.out.size)).trans (hb7.mono (Nat.le_trans BB5.out.size (bx _).size)))
      clear hb7 bx n10 nB nC
      go_wp2
      go_ret2
      exact ⟨by rw [← H1.out]; rfl, BB7.out⟩
  · rw [if_neg h0] at h1
    subst h1 h2
    have c3b1 : (readyA l0 a1 != 0) = true := bne_iff_ne.mpr h0
    have HRD := Aside0.mk hrd
    clear hrd h0
    go_enter Tryd.func27, Tryd.ntmps27
    go_wp2_with fail
    refine (refill_ready.calls 40 _ _ l0 _ _ _ [a1] _ _ (Kd.C_below HR0.out BB3.out) HC0.out (readsInt_one _ _ _ (NB3.out.cell 0)) (Nat.le_refl _) HRD.out).mono ?_
    rintro e w4 ⟨rfl, hb4⟩
    have BB4 := Aside0.mk (BB3.out.trans (hb4.mono BB3.out.size))
    clear hb4
    go_wp2
    go_ret2
    exact ⟨rfl, BB4.out⟩
end Go.Proofs.YtgiihjcpgjpkcaaDoor.Q
