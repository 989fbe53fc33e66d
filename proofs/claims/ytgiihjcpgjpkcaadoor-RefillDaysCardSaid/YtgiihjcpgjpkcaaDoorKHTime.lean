/- Contracts walked by hand and lemmas for them, as far as RefillDays needs them. -/
import Derived.Test.YtgiihjcpgjpkcaaDoorKHBlk
import Derived.Test.YtgiihjcpgjpkcaaDoorKHNarrow
import Derived.Test.YtgiihjcpgjpkcaaDoorKHRegion
import Derived.Deep.RegionHeld
namespace Go.Proofs.YtgiihjcpgjpkcaaDoor.Q
open Go.RowKit Go.Shelf Go.Proofs.YtgiihjcpgjpkcaaDoorW.PrintWords Go.Proofs.YtgiihjcpgjpkcaaDoorW.PrintLast Go.Proofs.YtgiihjcpgjpkcaaDoorW.PrintMore
set_option linter.unusedVariables false
set_option linter.unusedSimpArgs false
attribute [local go_sem] Oper.semAt_some
set_option maxRecDepth 100000 in
set_option maxHeartbeats 4000000 in
theorem time_in (n : Nat) (hn : 6 ≤ n) (A : Option Addr) (c : Nat) (d : List S51) (i : Int) (w : World) (hr : Kd.C k51 w A d.length d) (hc : d.length ≤ c) (hv : vd d = true) (hi : 0 ≤ i) (hi' : i < d.length) :
    CallsIn Fence.wide n Tryd.prog 65 #[.slice A d.length c, .int .i64 i] w fun e w' => e = .returned (.agg #[.int .i64 (timeOf d i).1, .int .i64 (timeOf d i).2]) ∧ Below w.heap.size w w' := by
  have h1 : 1 ≤ n := by omega
  have hu49 := Tryd.underlying49
  refine callsIn_of_wp_marks Tryd.func65 rfl trivial ?_ rfl
  simp only [Tryd.ntmps65, List.size_toArray, List.length_cons, List.length_nil, Nat.reduceAdd, Nat.reduceSub, Array.replicate_succ, Array.replicate_zero, List.push_toArray, List.append_toArray, List.nil_append, List.cons_append]
  gi_wp2_with (refine ⟨trivial, ?_⟩; gi_at_call 74; refine (known_in (n - 1) _ _ _ _ _).mono ?_; rintro e w' ⟨rfl, rfl⟩)
  have hB0 : Below w.heap.size w (((((((w.alloc (.cells #[.slice A d.length c] 23)).alloc (.cells #[.int .i64 i] 3)).alloc (.cells #[.int .i64 0, .int .i64 0] 49)).alloc (.cells #[.int .i64 0, .int .i64 1099511627776] 49)).alloc (.cells #[.func (.func 94) #[] #[]] 107)).alloc (.cells #[.slice A d.length c] 23)).alloc (.cells #[.bool false] 4)) := by
    repeat (first | exact Below.refl _ _ | refine below_alloc ?_ _)
  have b0 := (((((((Blk.new w 23 #[.slice A d.length c]).alloc (.cells #[.int .i64 i] 3)).alloc (.cells #[.int .i64 0, .int .i64 0] 49)).alloc (.cells #[.int .i64 0, .int .i64 1099511627776] 49)).alloc (.cells #[.func (.func 94) #[] #[]] 107)).alloc (.cells #[.slice A d.length c] 23)).alloc (.cells #[.bool false] 4))
  have b1 := ((((((Blk.new (w.alloc (.cells #[.slice A d.length c] 23)) 3 #[.int .i64 i]).alloc (.cells #[.int .i64 0, .int .i64 0] 49)).alloc (.cells #[.int .i64 0, .int .i64 1099511627776] 49)).alloc (.cells #[.func (.func 94) #[] #[]] 107)).alloc (.cells #[.slice A d.length c] 23)).alloc (.cells #[.bool false] 4))
  have b2 := (((((Blk.new ((w.alloc (.cells #[.slice A d.length c] 23)).alloc (.cells #[.int .i64 i] 3)) 49 #[.int .i64 0, .int .i64 0]).alloc (.cells #[.int .i64 0, .int .i64 1099511627776] 49)).alloc (.cells #[.func (.func 94) #[] #[]] 107)).alloc (.cells #[.slice A d.length c] 23)).alloc (.cells #[.bool false] 4))
  have b3 := ((((Blk.new (((w.alloc (.cells #[.slice A d.length c] 23)).alloc (.cells #[.int .i64 i] 3)).alloc (.cells #[.int .i64 0, .int .i64 0] 49)) 49 #[.int .i64 0, .int .i64 1099511627776]).alloc (.cells #[.func (.func 94) #[] #[]] 107)).alloc (.cells #[.slice A d.length c] 23)).alloc (.cells #[.bool false] 4))
  have b4 := (((Blk.new ((((w.alloc (.cells #[.slice A d.length c] 23)).alloc (.cells #[.int .i64 i] 3)).alloc (.cells #[.int .i64 0, .int .i64 0] 49)).alloc (.cells #[.int .i64 0, .int .i64 1099511627776] 49)) 107 #[.func (.func 94) #[] #[]]).alloc (.cells #[.slice A d.length c] 23)).alloc (.cells #[.bool false] 4))
  have b5 := ((Blk.new (((((w.alloc (.cells #[.slice A d.length c] 23)).alloc (.cells #[.int .i64 i] 3)).alloc (.cells #[.int .i64 0, .int .i64 0] 49)).alloc (.cells #[.int .i64 0, .int .i64 1099511627776] 49)).alloc (.cells #[.func (.func 94) #[] #[]] 107)) 23 #[.slice A d.length c]).alloc (.cells #[.bool false] 4))
  have b6 := (Blk.new ((((((w.alloc (.cells #[.slice A d.length c] 23)).alloc (.cells #[.int .i64 i] 3)).alloc (.cells #[.int .i64 0, .int .i64 0] 49)).alloc (.cells #[.int .i64 0, .int .i64 1099511627776] 49)).alloc (.cells #[.func (.func 94) #[] #[]] 107)).alloc (.cells #[.slice A d.length c] 23)) 4 #[.bool false])
  simp only [World.size_alloc] at b0 b1 b2 b3 b4 b5 b6
  have hsz : (((((((w.alloc (.cells #[.slice A d.length c] 23)).alloc (.cells #[.int .i64 i] 3)).alloc (.cells #[.int .i64 0, .int .i64 0] 49)).alloc (.cells #[.int .i64 0, .int .i64 1099511627776] 49)).alloc (.cells #[.func (.func 94) #[] #[]] 107)).alloc (.cells #[.slice A d.length c] 23)).alloc (.cells #[.bool false] 4)).heap.size = w.heap.size + 7 := by simp
  obtain ⟨W0, hW0⟩ : ∃ W0, (((((((w.alloc (.cells #[.slice A d.length c] 23)).alloc (.cells #[.int .i64 i] 3)).alloc (.cells #[.int .i64 0, .int .i64 0] 49)).alloc (.cells #[.int .i64 0, .int .i64 1099511627776] 49)).alloc (.cells #[.func (.func 94) #[] #[]] 107)).alloc (.cells #[.slice A d.length c] 23)).alloc (.cells #[.bool false] 4)) = W0 := ⟨_, rfl⟩
  rw [hW0] at hB0 b0 b1 b2 b3 b4 b5 b6 hsz ⊢
  clear hW0
  refine wpIn_rangeFunc_ownH rfl h1 (gf := 98) (lb := #[.pointer (some ⟨w.heap.size + 1 + 1 + 1 + 1 + 1, 0, none⟩), .pointer (some ⟨w.heap.size + 1 + 1 + 1 + 1 + 1 + 1, 0, none⟩)]) rfl trivial (enters_of Tryd.func98 (by kernel_rfl) rfl)
    (known_stops (n - 1) (by omega) (w.heap.size + 1 + 1 + 1 + 1 + 1) w.heap.size A c d false (by have := (vd_iff.1 hv).2.1; omega) hc W0 (by omega) (by omega) (by rw [b5.cell]; rfl) (by rw [b6.cell]; rfl) (fun W' hb => Kd.C_below hr (hB0.trans hb)))
    KpB.trans (KpB.putObj (by omega) (by omega)) (Below.refl _ _) (fun _ => rfl)
    (fun pre W => (((((Blk W w.heap.size 23 #[.slice A d.length c] ∧ Blk W (w.heap.size + 1) 3 #[.int .i64 i]) ∧ Blk W (w.heap.size + 1 + 1) 49 #[.int .i64 0, .int .i64 0]) ∧ Blk W (w.heap.size + 1 + 1 + 1) 49 #[.int .i64 (narAll d i pre).1, .int .i64 (narAll d i pre).2]) ∧ Blk W (w.heap.size + 1 + 1 + 1 + 1) 107 #[.func (.func 94) #[] #[]]) ∧ Blk W (w.heap.size + 1 + 1 + 1 + 1 + 1 + 1) 4 #[.bool false]) ∧ Below w.heap.size w W)
    (fun _ _ _ => False)
    (OwnFrom.and (OwnFrom.and (OwnFrom.and (OwnFrom.and (OwnFrom.and (OwnFrom.and (Own.from (blk_own _ _ _) _) (Own.from (blk_own _ _ _) _)) (Own.from (blk_own _ _ _) _)) (Own.from (blk_own _ _ _) _)) (Own.from (blk_own _ _ _) _)) (Own.from (blk_own _ _ _) _)) (ownFrom_below (Nat.le_refl _) (by omega)))
    (fun _ _ _ _ _ hs _ _ => hs)
    ⟨⟨⟨⟨⟨⟨b0, b1⟩, b2⟩, b3⟩, b4⟩, b6⟩, hB0⟩
    (fun x a' W => ∃ Bx, w.heap.size + 7 ≤ Bx ∧ Blk W Bx 49 #[.int .i64 (atOf d x.1).f0, .int .i64 (atOf d x.1).f1] ∧ a' = { tmps := #[.slice A d.length c, .int .i64 i, .pointer (some ⟨w.heap.size, 0, none⟩), .pointer (some ⟨w.heap.size + 1, 0, none⟩), .pointer (some ⟨w.heap.size + 1 + 1, 0, none⟩), .pointer (some ⟨w.heap.size + 1 + 1 + 1, 0, none⟩), .pointer (some ⟨w.heap.size + 1 + 1 + 1 + 1, 0, none⟩), .int .i64 x.1, .pointer (some ⟨Bx, 0, none⟩), .agg #[.int .i64 0, .int .i64 1099511627776], .slice A d.length c, .func (.func 98) #[] #[.pointer (some ⟨w.heap.size + 1 + 1 + 1 + 1 + 1, 0, none⟩), .pointer (some ⟨w.heap.size + 1 + 1 + 1 + 1 + 1 + 1, 0, none⟩)], .int .i64 x.1, .agg #[.int .i64 (atOf d x.1).f0, .int .i64 (atOf d x.1).f1], undef, undef, undef, undef, undef, undef, undef, undef], defers := [] })
    (fun x a' _ X Y row hs hg hr => by obtain ⟨Bx, h1, h2, h3⟩ := hs; exact ⟨Bx, h1, blk_own Bx 49 (fun (_ : Unit) => #[Value.int .i64 (atOf d x.1).f0, Value.int .i64 (atOf d x.1).f1]) () X Y row h2 hg (fun r e => (hr r e).2), h3⟩)
    ?assign ?body ?done ?stop
  case assign =>
    rintro l pre x W K ⟨⟨⟨⟨⟨⟨c0, c1⟩, c2⟩, c3⟩, c4⟩, c6⟩, hB1⟩ hK
    have hlt := c6.lt
    gi_wp2
    exact hK _ _ ((KeepsOthers.alloc _ _).from _) (KpB.of_below ((Below.refl _ W).alloc (Nat.le_refl _) _) (by omega) (by omega)) ⟨⟨⟨⟨⟨⟨c0.alloc _, c1.alloc _⟩, c2.alloc _⟩, c3.alloc _⟩, c4.alloc _⟩, c6.alloc _⟩, hB1.alloc (by omega) _⟩ ⟨W.heap.size, by omega, Blk.new W 49 _, rfl⟩
  case body =>
    rintro l pre x a' W hl ⟨r, hr'⟩ ⟨⟨⟨⟨⟨⟨c0, c1⟩, c2⟩, c3⟩, c4⟩, c6⟩, hB1⟩ ⟨Bx, hBx, bX, rfl⟩ hlen
    have hlt := c6.lt
    have l0 : W.cell? ⟨w.heap.size, 0, none⟩ = some (.slice A d.length c) := by rw [c0.cell]; rfl
    have l1 : W.cell? ⟨w.heap.size + 1, 0, none⟩ = some (.int .i64 i) := by rw [c1.cell]; rfl
    have l4 : W.cell? ⟨w.heap.size + 1 + 1 + 1 + 1, 0, none⟩ = some (.func (.func 94) #[] #[]) := by rw [c4.cell]; rfl
    have lx0 : W.cell? ⟨Bx, 0, none⟩ = some (.int .i64 (atOf d x.1).f0) := by rw [bX.cell]; rfl
    have lx1 : W.cell? ⟨Bx, 1, none⟩ = some (.int .i64 (atOf d x.1).f1) := by rw [bX.cell]; rfl
    have h1' : 1 ≤ n - 1 - 1 := by omega
    have hkd : Kd.C k51 W A d.length d := Kd.C_below hr hB1
    have hte := tells_eq hv (a := x.1) (i := i) x.2.1 x.2.2.1 (by omega) hi' 33 (Nat.le_refl _)
    have HTE := Lib.hid hte
    clear hte
    have f0 := c3.frozen 0
    have f1 := c3.frozen 1
    have l30 : W.cell? ⟨w.heap.size + 1 + 1 + 1, 0, none⟩ = some (.int .i64 (narAll d i pre).1) := by rw [c3.cell]; rfl
    have l31 : W.cell? ⟨w.heap.size + 1 + 1 + 1, 1, none⟩ = some (.int .i64 (narAll d i pre).2) := by rw [c3.cell]; rfl
    have hm : Tryd.prog.follows .mixedOrders = true := by kernel_rfl
    gi_wp2
    have hS0 : (fun w' : World => w'.cell? ⟨w.heap.size, 0, none⟩ = some (.slice A d.length c) ∧ w'.cell? ⟨w.heap.size + 1, 0, none⟩ = some (.int .i64 i) ∧ w'.cell? ⟨w.heap.size + 1 + 1 + 1 + 1, 0, none⟩ = some (.func (.func 94) #[] #[]) ∧ w'.cell? ⟨Bx, 0, none⟩ = some (.int .i64 (atOf d x.1).f0) ∧ w'.cell? ⟨Bx, 1, none⟩ = some (.int .i64 (atOf d x.1).f1)) W.drew := ⟨l0, l1, l4, lx0, lx1⟩
    clear l0 l1 l4 lx0 lx1
    refine wpIn_region_held_round (S := fun w' : World => w'.cell? ⟨w.heap.size, 0, none⟩ = some (.slice A d.length c) ∧ w'.cell? ⟨w.heap.size + 1, 0, none⟩ = some (.int .i64 i) ∧ w'.cell? ⟨w.heap.size + 1 + 1 + 1 + 1, 0, none⟩ = some (.func (.func 94) #[] #[]) ∧ w'.cell? ⟨Bx, 0, none⟩ = some (.int .i64 (atOf d x.1).f0) ∧ w'.cell? ⟨Bx, 1, none⟩ = some (.int .i64 (atOf d x.1).f1)) hm (by kernel_rfl) (by rintro ⟨_, _, h⟩; exact h) ?_
    refine wpAnyH_take (i := 0) (v := .func (.func 94) #[] #[]) rfl (by kernel_rfl) (by kernel_rfl) (by kernel_rfl) (fun _ _ _ h => h) (Or.inl ⟨by rfl, ?_⟩) hS0 ?_
    · rintro w' ⟨s0, s1, s4, sx0, sx1⟩
      go_simp
    simp only [Act.put, List.setIfInBounds_toArray, List.set_cons_zero, List.set_cons_succ]
    refine wpAnyH_take (i := 1) (v := .slice A d.length c) rfl (by kernel_rfl) (by kernel_rfl) (by kernel_rfl) (fun _ _ _ h => h) (Or.inl ⟨by rfl, ?_⟩) hS0 ?_
    · rintro w' ⟨s0, s1, s4, sx0, sx1⟩
      go_simp
    simp only [Act.put, List.setIfInBounds_toArray, List.set_cons_zero, List.set_cons_succ]
    refine wpAnyH_take (i := 2) (v := .int .i64 x.1) rfl (by kernel_rfl) (by kernel_rfl) (by kernel_rfl) (fun _ _ _ h => h) (Or.inl ⟨by rfl, ?_⟩) hS0 ?_
    · rintro w' ⟨s0, s1, s4, sx0, sx1⟩
      go_simp
    simp only [Act.put, List.setIfInBounds_toArray, List.set_cons_zero, List.set_cons_succ]
    refine wpAnyH_take (i := 3) (v := .agg #[.int .i64 (atOf d x.1).f0, .int .i64 (atOf d x.1).f1]) rfl (by kernel_rfl) (by kernel_rfl) (by kernel_rfl) (fun _ _ _ h => h) (Or.inl ⟨by rfl, ?_⟩) hS0 ?_
    · rintro w' ⟨s0, s1, s4, sx0, sx1⟩
      go_simp
    simp only [Act.put, List.setIfInBounds_toArray, List.set_cons_zero, List.set_cons_succ]
    refine wpAnyH_take (i := 4) (v := .int .i64 i) rfl (by kernel_rfl) (by kernel_rfl) (by kernel_rfl) (fun _ _ _ h => h) (Or.inl ⟨by rfl, ?_⟩) hS0 ?_
    · rintro w' ⟨s0, s1, s4, sx0, sx1⟩
      go_simp
    simp only [Act.put, List.setIfInBounds_toArray, List.set_cons_zero, List.set_cons_succ]
    refine wpAnyH_ready (rs := [5]) (by kernel_rfl) (by simp) ?_
    refine AllReadyH.cons rfl (fun K hK => ?_) AllReadyH.nil
    clear hS0
    go_simp
    refine (refill_tells.calls 33 A c d _ _ _ _ _ _ _ (Kd.C_below hkd (below_drew (Below.refl _ _))) hc HTE.out).mono ?_
    rintro e w1 ⟨rfl, hb1'⟩
    have hb1 : Below W.heap.size W w1 := (below_drew (Below.refl _ W)).trans hb1'
    have k0 := c0.below' hb1
    have k1 := c1.below' hb1
    have k2 := c2.below' hb1
    have k3 := c3.below' hb1
    have k4 := c4.below' hb1
    have k6 := c6.below' hb1
    have kX := bX.below' hb1
    have hS1 : (fun w' : World => w'.cell? ⟨w.heap.size, 0, none⟩ = some (.slice A d.length c) ∧ w'.cell? ⟨w.heap.size + 1, 0, none⟩ = some (.int .i64 i) ∧ w'.cell? ⟨w.heap.size + 1 + 1 + 1 + 1, 0, none⟩ = some (.func (.func 94) #[] #[]) ∧ w'.cell? ⟨Bx, 0, none⟩ = some (.int .i64 (atOf d x.1).f0) ∧ w'.cell? ⟨Bx, 1, none⟩ = some (.int .i64 (atOf d x.1).f1)) w1 := ⟨k0.cell 0, k1.cell 0, k4.cell 0, kX.cell 0, kX.cell 1⟩
    refine hK.out _ _ hS1 (fun _ => ?_)
    clear hK K hS1
    refine wpAnyH_ready (rs := [6]) (by kernel_rfl) (by simp) ?_
    refine AllReadyH.cons rfl (fun K hK => ?_) AllReadyH.nil
    go_simp
    refine (narrow_any (w.heap.size + 1 + 1 + 1) _ _ _ _ _ (k3.cell 0) (k3.cell 1) (k3.frozen 0) (k3.frozen 1) k3.lt).mono ?_
    rintro e w2 ⟨rfl, rfl⟩
    have m0 := (Blk.drew (((k0.far (p := ⟨w.heap.size + 1 + 1 + 1, 0, none⟩) (by dsimp only; omega) (.int .i64 (mx (narAll d i pre).1 (tlo d x.1 i)))).far (p := ⟨w.heap.size + 1 + 1 + 1, 1, none⟩) (by dsimp only; omega) (.int .i64 (mn (narAll d i pre).2 (thi d x.1 i)))).alloc (.cells #[.int .i64 (tlo d x.1 i), .int .i64 (thi d x.1 i)] 49)))
    have m1 := (Blk.drew (((k1.far (p := ⟨w.heap.size + 1 + 1 + 1, 0, none⟩) (by dsimp only; omega) (.int .i64 (mx (narAll d i pre).1 (tlo d x.1 i)))).far (p := ⟨w.heap.size + 1 + 1 + 1, 1, none⟩) (by dsimp only; omega) (.int .i64 (mn (narAll d i pre).2 (thi d x.1 i)))).alloc (.cells #[.int .i64 (tlo d x.1 i), .int .i64 (thi d x.1 i)] 49)))
    have m2 := (Blk.drew (((k2.far (p := ⟨w.heap.size + 1 + 1 + 1, 0, none⟩) (by dsimp only; omega) (.int .i64 (mx (narAll d i pre).1 (tlo d x.1 i)))).far (p := ⟨w.heap.size + 1 + 1 + 1, 1, none⟩) (by dsimp only; omega) (.int .i64 (mn (narAll d i pre).2 (thi d x.1 i)))).alloc (.cells #[.int .i64 (tlo d x.1 i), .int .i64 (thi d x.1 i)] 49)))
    have m4 := (Blk.drew (((k4.far (p := ⟨w.heap.size + 1 + 1 + 1, 0, none⟩) (by dsimp only; omega) (.int .i64 (mx (narAll d i pre).1 (tlo d x.1 i)))).far (p := ⟨w.heap.size + 1 + 1 + 1, 1, none⟩) (by dsimp only; omega) (.int .i64 (mn (narAll d i pre).2 (thi d x.1 i)))).alloc (.cells #[.int .i64 (tlo d x.1 i), .int .i64 (thi d x.1 i)] 49)))
    have m6 := (Blk.drew (((k6.far (p := ⟨w.heap.size + 1 + 1 + 1, 0, none⟩) (by dsimp only; omega) (.int .i64 (mx (narAll d i pre).1 (tlo d x.1 i)))).far (p := ⟨w.heap.size + 1 + 1 + 1, 1, none⟩) (by dsimp only; omega) (.int .i64 (mn (narAll d i pre).2 (thi d x.1 i)))).alloc (.cells #[.int .i64 (tlo d x.1 i), .int .i64 (thi d x.1 i)] 49)))
    have mX := (Blk.drew (((kX.far (p := ⟨w.heap.size + 1 + 1 + 1, 0, none⟩) (by dsimp only; omega) (.int .i64 (mx (narAll d i pre).1 (tlo d x.1 i)))).far (p := ⟨w.heap.size + 1 + 1 + 1, 1, none⟩) (by dsimp only; omega) (.int .i64 (mn (narAll d i pre).2 (thi d x.1 i)))).alloc (.cells #[.int .i64 (tlo d x.1 i), .int .i64 (thi d x.1 i)] 49)))
    have m3 := Blk.drew (((k3.set_ 0 (.int .i64 (mx (narAll d i pre).1 (tlo d x.1 i)))).set_ 1 (.int .i64 (mn (narAll d i pre).2 (thi d x.1 i)))).alloc (.cells #[.int .i64 (tlo d x.1 i), .int .i64 (thi d x.1 i)] 49))
    have hlo := k6.lt
    have kp : KpB w.heap.size (w.heap.size + 1 + 1 + 1 + 1 + 1) W ((((w1.setCell ⟨w.heap.size + 1 + 1 + 1, 0, none⟩ (.int .i64 (mx (narAll d i pre).1 (tlo d x.1 i)))).setCell ⟨w.heap.size + 1 + 1 + 1, 1, none⟩ (.int .i64 (mn (narAll d i pre).2 (thi d x.1 i)))).alloc (.cells #[.int .i64 (tlo d x.1 i), .int .i64 (thi d x.1 i)] 49)).drew) := ((((KpB.of_below hb1 (by omega) (by omega)).trans (KpB.setCell (p := ⟨w.heap.size + 1 + 1 + 1, 0, none⟩) (by dsimp only; omega) (by dsimp only; omega) _)).trans (KpB.setCell (p := ⟨w.heap.size + 1 + 1 + 1, 1, none⟩) (by dsimp only; omega) (by dsimp only; omega) _)).trans (KpB.alloc (by simp; omega) (by simp; omega) _)).trans (KpB.drew _ _ _)
    have kf : KeepsOthers W ((((w1.setCell ⟨w.heap.size + 1 + 1 + 1, 0, none⟩ (.int .i64 (mx (narAll d i pre).1 (tlo d x.1 i)))).setCell ⟨w.heap.size + 1 + 1 + 1, 1, none⟩ (.int .i64 (mn (narAll d i pre).2 (thi d x.1 i)))).alloc (.cells #[.int .i64 (tlo d x.1 i), .int .i64 (thi d x.1 i)] 49)).drew) := ((((KeepsOthers.of_below hb1).trans (KeepsOthers.setCell _ _ _)).trans (KeepsOthers.setCell _ _ _)).trans (KeepsOthers.alloc _ _)).trans (KeepsOthers.drew _)
    refine hK.out _ _ ⟨m0.cell 0, m1.cell 0, m4.cell 0, mX.cell 0, mX.cell 1⟩ (fun _ => ?_)
    refine wpAnyH_done (by kernel_rfl) ?_ _
    exact ⟨kf.from _, kp, ⟨⟨⟨⟨⟨⟨m0, m1⟩, m2⟩, by rw [narAll_snoc]; exact m3⟩, m4⟩, m6⟩, hB1.trans kp.below⟩⟩
  case done =>
    rintro D ys W hD rfl ⟨⟨⟨⟨⟨⟨c0, c1⟩, c2⟩, c3⟩, c4⟩, c6⟩, hB1⟩ hK
    have f0 := c2.frozen 0
    have f1 := c2.frozen 1
    have l20 : W.cell? ⟨w.heap.size + 1 + 1, 0, none⟩ = some (.int .i64 0) := c2.cell 0
    have l21 : W.cell? ⟨w.heap.size + 1 + 1, 1, none⟩ = some (.int .i64 0) := c2.cell 1
    have l30 : W.cell? ⟨w.heap.size + 1 + 1 + 1, 0, none⟩ = some (.int .i64 (timeOf d i).1) := c3.cell 0
    have l31 : W.cell? ⟨w.heap.size + 1 + 1 + 1, 1, none⟩ = some (.int .i64 (timeOf d i).2) := c3.cell 1
    gi_wp2
    have hK1 := ((KeepsOthers.setCell W ⟨w.heap.size + 1 + 1, 0, none⟩ (.int .i64 (timeOf d i).1)).trans (KeepsOthers.setCell _ ⟨w.heap.size + 1 + 1, 1, none⟩ (.int .i64 (timeOf d i).2))).same D _ hK rfl
    have q2 := (c2.set_ 0 (.int .i64 (timeOf d i).1)).set_ 1 (.int .i64 (timeOf d i).2)
    refine ⟨by simp, .inl ⟨_, _, rfl, run_takeDeferred hK1, ?_⟩⟩
    have z0 := cell_kept (show _ = some (Value.int .i64 (timeOf d i).1) from q2.cell 0) (grownBy_putObj' _ D (.deferred none)) (fun r e => by cases e; exact ⟨_, hK1, rfl⟩)
    have z1 := cell_kept (show _ = some (Value.int .i64 (timeOf d i).2) from q2.cell 1) (grownBy_putObj' _ D (.deferred none)) (fun r e => by cases e; exact ⟨_, hK1, rfl⟩)
    refine ⟨.agg #[.int .i64 (timeOf d i).1, .int .i64 (timeOf d i).2], ?_, rfl, ((hB1.setCell (p := ⟨w.heap.size + 1 + 1, 0, none⟩) (by dsimp only; omega) _).setCell (p := ⟨w.heap.size + 1 + 1, 1, none⟩) (by dsimp only; omega) _).trans (belowK_b (w := w) (Nat.le_refl _) _ D _ _ (by omega) hK1 rfl rfl)⟩
    simp [results, Tryd.f65, go_sem, z0, z1, hu49]
  case stop =>
    rintro D c pre W _ _ h _
    exact h.elim
def refill_time.f (l0 : List S51) (a1 : Int) : Option (Int × Int) := if vd l0 = true ∧ 0 ≤ a1 ∧ a1 < l0.length then some (timeOf l0 a1) else none
theorem refill_time.calls (A0 : Option Addr) (c0 : Nat) (l0 : List S51) (a1 : Int) (r1 : Int) (r2 : Int) (w : World) (hr0 : Kd.C k51 w A0 l0.length l0) (hc0 : l0.length ≤ c0) (h : refill_time.f l0 a1 = some (r1, r2)) :
    Calls Tryd.prog 65 #[.slice A0 l0.length c0, .int .i64 a1] w fun e w' => e = .returned (.agg #[.int .i64 r1, .int .i64 r2]) ∧ Below w.heap.size w w' := by
  unfold refill_time.f at h
  by_cases hv : vd l0 = true ∧ 0 ≤ a1 ∧ a1 < l0.length
  · rw [if_pos hv] at h
    have h2 := Option.some.inj h
    have := callsIn_wide.1 (time_in 6 (Nat.le_refl _) A0 c0 l0 a1 w hr0 hc0 hv.1 hv.2.1 hv.2.2)
    rw [h2] at this
    exact this
  · rw [if_neg hv] at h
    cases h
end Go.Proofs.YtgiihjcpgjpkcaaDoor.Q
