/- Contracts walked by hand and lemmas for them, as far as RefillDays needs them. -/
import Derived.Test.YtgiihjcpgjpkcaaDoorKM0
import Derived.Test.YtgiihjcpgjpkcaaDoorKHRegion
import Derived.Test.YtgiihjcpgjpkcaaDoorKHClone
import Derived.Test.YtgiihjcpgjpkcaaDoorKHProof
import Derived.Deep.RegionHeld
import Derived.RegionTactic
import Derived.BigRegion
import Derived.ChangeAlike
namespace Go.Proofs.YtgiihjcpgjpkcaaDoor.Q
open Go.RowKit Go.Shelf Go.Proofs.YtgiihjcpgjpkcaaDoorW.PrintWords Go.Proofs.YtgiihjcpgjpkcaaDoorW.PrintLast Go.Proofs.YtgiihjcpgjpkcaaDoorW.PrintMore
set_option linter.unusedVariables false
set_option linter.unusedSimpArgs false
attribute [local go_sem] Oper.semAt_some max2_int min2_int
def narrowedAt (e : S51) (x0 x1 : Int) : Int × Int := if e.f1.f0 = 1 ∧ e.f1.f1 = 0 then (x0, x1) else (mx e.f1.f0 x0, mn e.f1.f1 x1)
def withAt (d : List S51) (i : Int) (p : Int × Int) : List S51 := d.set i.toNat ⟨⟨(rd_T51 d i).f0.f0, (rd_T51 d i).f0.f1⟩, ⟨p.1, p.2⟩⟩
def knownErr (d : List S51) (i x0 x1 : Int) : Int := if vd d = true then (if 0 ≤ i ∧ i < d.length then (if 0 ≤ x0 ∧ x0 ≤ x1 ∧ x1 ≤ 16777216 then (if (narrowedAt (rd_T51 d i) x0 x1).1 > (narrowedAt (rd_T51 d i) x0 x1).2 then 4 else 0) else 1) else 1) else 40
def refill_Known.f (l0 : List S51) (a1 x0 x1 : Int) : Option (List S51 × Int) := some (if knownErr l0 a1 x0 x1 = 0 then withAt l0 a1 (narrowedAt (rd_T51 l0 a1) x0 x1) else [], knownErr l0 a1 x0 x1)
theorem event_one (d : List S51) (i : Int) (k : Nat) (hk : 40 ≤ k) : refill_event.f k d 0 [i] = some (if vd d = true then (if 0 ≤ i ∧ i < d.length then 0 else 1) else 40) := by
  rw [event_eq d 0 [i] (by simp) k hk]
  unfold inds
  simp
theorem at_cells {W : World} {base go n co : Nat} {l : List S51} {i : Int} (ho : Kd.R k51 51 W base (fun _ => True) (.slice (some ⟨go, 0, none⟩) n co) l) (h0 : 0 ≤ i) (h1 : i < (n : Int)) :
    W.cell? ⟨go, i.toNat * 4 + 2, none⟩ = some (.int .i64 (rd_T51 l i).f1.f0) ∧ W.cell? ⟨go, i.toNat * 4 + 3, none⟩ = some (.int .i64 (rd_T51 l i).f1.f1) ∧
    W.frozen? ⟨go, i.toNat * 4 + 2, none⟩ = false ∧ W.frozen? ⟨go, i.toNat * 4 + 3, none⟩ = false ∧
    ∀ x y : Int, Kd.R k51 51 ((W.setCell ⟨go, i.toNat * 4 + 2, none⟩ (.int .i64 x)).setCell ⟨go, i.toNat * 4 + 3, none⟩ (.int .i64 y)) base (fun _ => True) (.slice (some ⟨go, 0, none⟩) n co) (withAt l i (x, y)) := by
  obtain ⟨ce, hcl, hM, hcc, hfr⟩ := Kd.R_elem ho z51 i h0 h1
  obtain rfl := k51_openM hM
  exact ⟨hcc 2 _ rfl, hcc 3 _ rfl, hfr 2, hfr 3, fun x y => (Kd.R_seg ho i h0 h1 (seg := [.int .i64 x, .int .i64 y]) (j := 2) hcl hcc (show 4 ≤ 4 from by decide) (x' := (⟨⟨(rd_T51 l i).f0.f0, (rd_T51 l i).f0.f1⟩, ⟨x, y⟩⟩ : S51)) (k51_mkM _ _ _ _) (fun _ hk => hk)).1⟩
set_option maxHeartbeats 8000000 in
set_option maxRecDepth 100000 in
theorem refill_Known.calls (A0 : Option Addr) (c0 : Nat) (l0 : List S51) (a1 : Int) (a2_0 : Int) (a2_1 : Int) (r1 : List S51) (r2 : Int) (w : World) (hr0 : Kd.C k51 w A0 l0.length l0) (hc0 : l0.length ≤ c0) (h : refill_Known.f l0 a1 a2_0 a2_1 = some (r1, r2)) :
    Calls Tryd.prog 45 #[.slice A0 l0.length c0, .int .i64 a1, .agg #[.int .i64 a2_0, .int .i64 a2_1]] w fun e w' => ∃ v0_ : Value, e = .returned (.tuple #[v0_, .int .i64 r2]) ∧ Kd.R k51 51 w' w.heap.size (fun _ => True) v0_ r1 ∧ Below w.heap.size w w' := by
  unfold refill_Known.f at h
  simp only [Option.some.injEq, Prod.mk.injEq] at h
  obtain ⟨h1, h2⟩ := h
  have hu49 := Tryd.underlying49
  have hev := event_one l0 a1 40 (Nat.le_refl _)
  have HR0 := Aside0.mk hr0
  have HC0 := Aside0.mk hc0
  clear hr0 hc0
  have B2 : Below w.heap.size w ((w.alloc (.cells #[.int .i64 a2_0, .int .i64 a2_1] 49)).alloc (.cells #[.int .i64 a1] 3)) := by
    repeat (first | exact Below.refl _ _ | refine below_alloc ?_ _)
  have b0 := (Blk.new w 49 #[.int .i64 a2_0, .int .i64 a2_1]).alloc (.cells #[.int .i64 a1] 3)
  have b1 := Blk.new (w.alloc (.cells #[.int .i64 a2_0, .int .i64 a2_1] 49)) 3 #[.int .i64 a1]
  simp only [World.size_alloc] at b0 b1
  have NB0 := Aside0.mk b0
  have NB1 := Aside0.mk b1
  have BB2 := Aside0.mk B2
  clear b0 b1 B2
  by_cases hok : vd l0 = true ∧ 0 ≤ a1 ∧ a1 < l0.length
  · have hev' : refill_event.f 40 l0 0 [a1] = some 0 := by rw [hev, if_pos hok.1, if_pos hok.2]
    have HEV := Aside0.mk hev'
    clear hev hev'
    go_enter Tryd.func45, Tryd.ntmps45
    go_wp2_with fail
    refine (refill_event.calls 40 _ _ l0 _ _ _ [a1] _ _ (Kd.C_below HR0.out BB2.out) HC0.out (readsInt_one _ _ _ (NB1.out.cell 0)) (Nat.le_refl _) HEV.out).mono ?_
    rintro e w4 ⟨rfl, hb4⟩
    have BB4 := Aside0.mk (BB2.out.trans (hb4.mono BB2.out.size))
    have k0 := NB0.out.below' hb4
    clear hb4
    have q0 : w4.cell? ⟨w.heap.size, 0, none⟩ = some (.int .i64 a2_0) := k0.cell 0
    have q1 : w4.cell? ⟨w.heap.size, 1, none⟩ = some (.int .i64 a2_1) := k0.cell 1
    have hwi := within_eq a2_0 a2_1 0 16777216
    by_cases hw : 0 ≤ a2_0 ∧ a2_0 ≤ a2_1 ∧ a2_1 ≤ 16777216
    · rw [decide_eq_true hw] at hwi
      have HWI := Aside0.mk hwi
      have HW := Aside0.mk hw
      have HOK := Aside0.mk hok
      clear hw hwi hok
      go_wp2_with fail
      refine (refill_within.calls _ _ _ _ _ _ HWI.out).mono ?_
      rintro e w5 ⟨rfl, hb5⟩
      have BB5 := Aside0.mk (BB4.out.trans (hb5.mono BB4.out.size))
      have k1 := k0.below' hb5
      clear hb5 k0 q0 q1
      have hcl : slices_CloneDay.f l0 = some l0 := by
        unfold slices_CloneDay.f
        rw [if_pos]
        have := (vd_iff.1 HOK.out.1).2.1
        omega
      have HCL := Aside0.mk hcl
      clear hcl
      go_wp2_with fail
      refine (slices_CloneDay.calls _ _ l0 _ _ (Kd.C_below HR0.out BB5.out) HC0.out HCL.out).mono ?_
      rintro e w6 ⟨v6, rfl, ho6, hb6⟩
      have BB6 := Aside0.mk (BB5.out.trans (hb6.mono BB5.out.size))
      have k2 := k1.below' hb6
      have p28 : 0 ≤ a1 := HOK.out.2.1
      have q28 : a1 < ((l0.length : Nat) : Int) := HOK.out.2.2
      obtain ⟨go, co, eo, gb, gl, cl, HG⟩ := Kd.R_form ho6 (by omega)
      subst eo
      have hne : w.heap.size ≠ go := by have := k1.lt; omega
      have GB := Aside0.mk (Nat.le_trans BB5.out.size gb)
      have ho := Kd.R_lower ho6 BB5.out.size
      clear hb6 k1 ho6 gb gl HG cl
      obtain ⟨hx2, hx3, hf2, hf3, hput⟩ := at_cells ho p28 q28
      clear hf2 hf3 hput
      have HO := Aside0.mk ho
      clear ho
      go_wp2_with fail
      have hS0 : (fun w' : World => w'.cell? ⟨go, a1.toNat * 4 + 2, none⟩ = some (.int .i64 (rd_T51 l0 a1).f1.f0) ∧ w'.cell? ⟨go, a1.toNat * 4 + 3, none⟩ = some (.int .i64 (rd_T51 l0 a1).f1.f1)) w6.drew := ⟨hx2, hx3⟩
      refine wp_region_held (S := fun w' : World => w'.cell? ⟨go, a1.toNat * 4 + 2, none⟩ = some (.int .i64 (rd_T51 l0 a1).f1.f0) ∧ w'.cell? ⟨go, a1.toNat * 4 + 3, none⟩ = some (.int .i64 (rd_T51 l0 a1).f1.f1)) (by kernel_rfl) ?_
      show wpAnyH _ _ _ _ _ _ _ _ w6.drew
      clear hx2 hx3
      refine wpAnyH_take (i := 0) (v := (.pointer (some ⟨go, a1.toNat * 4 + 2, none⟩))) rfl (by kernel_rfl) (by kernel_rfl) (by kernel_rfl) (fun _ _ _ h => h) (Or.inl ⟨by rfl, ?_⟩) hS0 ?_
      · rintro w' ⟨s2, s3⟩
        go_simp
      simp only [Act.put, List.setIfInBounds_toArray, List.set_cons_zero, List.set_cons_succ]
      refine wpAnyH_take (i := 1) (v := (.pointer (some ⟨go, a1.toNat * 4 + 2, none⟩))) rfl (by kernel_rfl) (by kernel_rfl) (by kernel_rfl) (fun _ _ _ h => h) (Or.inl ⟨by rfl, ?_⟩) hS0 ?_
      · rintro w' ⟨s2, s3⟩
        go_simp
      simp only [Act.put, List.setIfInBounds_toArray, List.set_cons_zero, List.set_cons_succ]
      refine wpAnyH_take (i := 2) (v := (.agg #[.int .i64 (rd_T51 l0 a1).f1.f0, .int .i64 (rd_T51 l0 a1).f1.f1])) rfl (by kernel_rfl) (by kernel_rfl) (by kernel_rfl) (fun _ _ _ h => h) (Or.inl ⟨by rfl, ?_⟩) hS0 ?_
      · rintro w' ⟨s2, s3⟩
        go_simp
      simp only [Act.put, List.setIfInBounds_toArray, List.set_cons_zero, List.set_cons_succ]
      refine wpAnyH_ready (rs := [3]) (by kernel_rfl) (by simp) ?_
      refine AllReadyH.cons rfl (fun K hK => ?_) AllReadyH.nil
      have HS0 := Aside0.mk hS0
      clear hS0
      go_simp
      refine (refill_unknown.calls 1 0 _ rfl).mono ?_
      rintro e w7 ⟨rfl, hb7⟩
      obtain ⟨s2, s3⟩ := HS0.out
      have BB7 := Aside0.mk ((below_drew BB6.out).trans (hb7.mono BB6.out.size))
      have ho7 := Kd.R_below (Kd.R_drew HO.out) hb7
      have k3 := k2.drew.below' hb7
      refine hK.out _ _ ⟨(hb7.cell (World.block_lt_of_cell? _ _ s2)).trans s2, (hb7.cell (World.block_lt_of_cell? _ _ s3)).trans s3⟩ (fun hS1 => ?_)
      clear hK K s2 s3 HS0 hb7 HO
      refine wpAnyH_take (i := 4) (v := .bool (((rd_T51 l0 a1).f1.f0 == 1) && ((rd_T51 l0 a1).f1.f1 == 0))) rfl (by kernel_rfl) (by kernel_rfl) (by kernel_rfl) (fun _ _ _ h => h) (Or.inl ⟨by rfl, ?_⟩) hS1 ?_
      · rintro w' ⟨s2, s3⟩
        go_simp
        by_cases e1 : (rd_T51 l0 a1).f1.f0 = 1 <;> by_cases e2 : (rd_T51 l0 a1).f1.f1 = 0 <;> simp [e1, e2]
      show wpAnyH _ _ _ _ _ _ _ (Act.put _ (some 31) _) _
      simp only [Act.put, List.setIfInBounds_toArray, List.set_cons_zero, List.set_cons_succ]
      refine wpAnyH_done (by kernel_rfl) ?_ _
      obtain ⟨hx2, hx3, hf2, hf3, hput⟩ := at_cells ho7 p28 q28
      have z0 : w7.cell? ⟨w.heap.size, 0, none⟩ = some (.int .i64 a2_0) := k3.cell 0
      have z1 : w7.cell? ⟨w.heap.size, 1, none⟩ = some (.int .i64 a2_1) := k3.cell 1
      have HP := Aside0.mk hput
      clear hput
      by_cases hu : (rd_T51 l0 a1).f1.f0 = 1 ∧ (rd_T51 l0 a1).f1.f1 = 0
      · have hna : narrowedAt (rd_T51 l0 a1) a2_0 a2_1 = (a2_0, a2_1) := if_pos hu
        obtain ⟨hu1, hu2⟩ := hu
        have H1 := Aside0.mk h1
        have H2 := Aside0.mk h2
        have HNA := Aside0.mk hna
        clear h1 h2 hna
        simp only [hu1, hu2, beq_self_eq_true, Bool.and_true]
        go_wp2
        go_ret2
        have hz : knownErr l0 a1 a2_0 a2_1 = 0 := by unfold knownErr; rw [if_pos HOK.out.1, if_pos HOK.out.2, if_pos HW.out, HNA.out, if_neg (by have := HW.out; dsimp only; omega)]
        have e1 := H1.out
        have e2 := H2.out
        rw [hz] at e1 e2
        rw [if_pos rfl, HNA.out] at e1
        subst e1 e2
        refine ⟨_, rfl, HP.out _ _, ?_⟩
        exact below_set (below_set BB7.out GB.out) GB.out
      · have hna : narrowedAt (rd_T51 l0 a1) a2_0 a2_1 = (mx (rd_T51 l0 a1).f1.f0 a2_0, mn (rd_T51 l0 a1).f1.f1 a2_1) := if_neg hu
        have hcf : ((rd_T51 l0 a1).f1.f0 == 1 && (rd_T51 l0 a1).f1.f1 == 0) = false := by
          rw [Bool.eq_false_iff]
          intro h
          simp only [Bool.and_eq_true, beq_iff_eq] at h
          exact hu h
        have H1 := Aside0.mk h1
        have H2 := Aside0.mk h2
        have HNA := Aside0.mk hna
        clear h1 h2 hna hu
        rw [hcf]
        clear hcf
        obtain ⟨hx2', hx3', hf2', hf3', hput'⟩ := at_cells (Kd.R_drew ho7) p28 q28
        have ho8 := hput' (mx (rd_T51 l0 a1).f1.f0 a2_0) (mn (rd_T51 l0 a1).f1.f1 a2_1)
        obtain ⟨u0, hu0⟩ : ∃ u, u = mx (rd_T51 l0 a1).f1.f0 a2_0 := ⟨_, rfl⟩
        obtain ⟨u1, hu1⟩ : ∃ u, u = mn (rd_T51 l0 a1).f1.f1 a2_1 := ⟨_, rfl⟩
        have hu0' : u0 = if (rd_T51 l0 a1).f1.f0 < a2_0 then a2_0 else (rd_T51 l0 a1).f1.f0 := hu0
        have hu1' : u1 = if a2_1 < (rd_T51 l0 a1).f1.f1 then a2_1 else (rd_T51 l0 a1).f1.f1 := hu1
        have HU0 := Aside0.mk hu0'
        have HU1 := Aside0.mk hu1'
        rw [← hu0, ← hu1] at ho8 HNA
        have bb8 : Below w.heap.size w ((w7.drew.setCell ⟨go, a1.toNat * 4 + 2, none⟩ (.int .i64 u0)).setCell ⟨go, a1.toNat * 4 + 3, none⟩ (.int .i64 u1)) := below_set (below_set (below_drew BB7.out) GB.out) GB.out
        have HO8 := Aside0.mk ho8
        have BB8 := Aside0.mk bb8
        clear ho8 bb8 hu0 hu1 hu0' hu1' hput'
        go_wp2
        go_region
        rw [← HU0.out, ← HU1.out]
        have ho8 : Kd.R k51 51 (((w7.setCell ⟨go, a1.toNat * 4 + 2, none⟩ (.int .i64 u0)).setCell ⟨go, a1.toNat * 4 + 2 + 1, none⟩ (.int .i64 u1)).drew) w.heap.size (fun _ => True) (.slice (some ⟨go, 0, none⟩) l0.length co) (withAt l0 a1 (u0, u1)) := HO8.out
        have bb8 : Below w.heap.size w (((w7.setCell ⟨go, a1.toNat * 4 + 2, none⟩ (.int .i64 u0)).setCell ⟨go, a1.toNat * 4 + 2 + 1, none⟩ (.int .i64 u1)).drew) := BB8.out
        clear HO8 BB8 hx2 hx3 hx2' hx3' hf2 hf3 hf2' hf3' z0 z1 k3 HP
        generalize ((w7.setCell ⟨go, a1.toNat * 4 + 2, none⟩ (.int .i64 u0)).setCell ⟨go, a1.toNat * 4 + 2 + 1, none⟩ (.int .i64 u1)).drew = w8 at ho8 bb8 ⊢
        have hlen : (withAt l0 a1 (u0, u1)).length = l0.length := by unfold withAt; rw [List.length_set]
        have hrd : (rd_T51 (withAt l0 a1 (u0, u1)) a1).f1 = ⟨u0, u1⟩ := by
          unfold withAt rd_T51
          rw [List.getD_eq_getElem?_getD, List.getElem?_set_self (by omega)]
          rfl
        obtain ⟨hx2, hx3, hf2, hf3, hput⟩ := at_cells (Kd.R_drew ho8) p28 q28
        rw [hrd] at hx2 hx3
        clear hf2 hf3 hput hrd hlen
        have HO8 := Aside0.mk ho8
        have BB8 := Aside0.mk bb8
        clear ho8 bb8
        by_cases hgt : u0 > u1
        · have hz : knownErr l0 a1 a2_0 a2_1 = 4 := by unfold knownErr; rw [if_pos HOK.out.1, if_pos HOK.out.2, if_pos HW.out, HNA.out, if_pos hgt]
          have e1 := H1.out
          have e2 := H2.out
          rw [hz] at e1 e2
          rw [if_neg (by decide)] at e1
          subst e1 e2
          have hgt' : decide (u1 < u0) = true := decide_eq_true hgt
          clear hz hgt
          go_wp2
          go_region
          go_wp2
          go_ret2
          exact ⟨_, rfl, Kd.R_nil _ _ _ _ _, below_drew BB8.out⟩
        · have hz : knownErr l0 a1 a2_0 a2_1 = 0 := by unfold knownErr; rw [if_pos HOK.out.1, if_pos HOK.out.2, if_pos HW.out, HNA.out, if_neg hgt]
          have e1 := H1.out
          have e2 := H2.out
          rw [hz] at e1 e2
          rw [if_pos rfl, HNA.out] at e1
          subst e1 e2
          have hgt' : decide (u1 < u0) = false := decide_eq_false hgt
          clear hz hgt
          go_wp2
          go_region
          go_wp2
          go_ret2
          exact ⟨_, rfl, Kd.R_drew HO8.out, below_drew BB8.out⟩
    · rw [decide_eq_false hw] at hwi
      have hz : knownErr l0 a1 a2_0 a2_1 = 1 := by unfold knownErr; rw [if_pos hok.1, if_pos hok.2, if_neg hw]
      rw [hz] at h1 h2
      rw [if_neg (by decide)] at h1
      subst h1 h2
      have HWI := Aside0.mk hwi
      clear hw hwi hok hz
      go_wp2_with fail
      refine (refill_within.calls _ _ _ _ _ _ HWI.out).mono ?_
      rintro e w5 ⟨rfl, hb5⟩
      have BB5 := Aside0.mk (BB4.out.trans (hb5.mono BB4.out.size))
      clear hb5 k0 q0 q1
      go_wp2
      go_ret2
      exact ⟨_, rfl, Kd.R_nil _ _ _ _ _, BB5.out⟩
  · obtain ⟨z, hz, hz0, hzv⟩ : ∃ z, refill_event.f 40 l0 0 [a1] = some z ∧ z ≠ 0 ∧ knownErr l0 a1 a2_0 a2_1 = z := by
      unfold knownErr
      rw [hev]
      by_cases hv : vd l0 = true
      · rw [if_pos hv, if_pos hv, if_neg (fun h => hok ⟨hv, h⟩), if_neg (fun h => hok ⟨hv, h⟩)]
        exact ⟨1, rfl, by decide, rfl⟩
      · rw [if_neg hv, if_neg hv]
        exact ⟨40, rfl, by decide, rfl⟩
    rw [hzv] at h1 h2
    rw [if_neg hz0] at h1
    subst h1 h2
    have c3 : (z != 0) = true := bne_iff_ne.mpr hz0
    have HZ := Aside0.mk hz
    clear hz hz0 hzv hev hok
    go_enter Tryd.func45, Tryd.ntmps45
    go_wp2_with fail
    refine (refill_event.calls 40 _ _ l0 _ _ _ [a1] _ _ (Kd.C_below HR0.out BB2.out) HC0.out (readsInt_one _ _ _ (NB1.out.cell 0)) (Nat.le_refl _) HZ.out).mono ?_
    rintro e w4 ⟨rfl, hb4⟩
    have BB4 := Aside0.mk (BB2.out.trans (hb4.mono BB2.out.size))
    clear hb4
    go_wp2
    go_ret2
    exact ⟨_, rfl, Kd.R_nil _ _ _ _ _, BB4.out⟩
end Go.Proofs.YtgiihjcpgjpkcaaDoor.Q
