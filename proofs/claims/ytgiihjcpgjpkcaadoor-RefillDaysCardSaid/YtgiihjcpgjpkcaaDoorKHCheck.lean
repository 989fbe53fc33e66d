/- Contracts walked by hand and lemmas for them, as far as RefillDays needs them. -/
import Derived.Test.YtgiihjcpgjpkcaaDoorKHWithout
namespace Go.Proofs.YtgiihjcpgjpkcaaDoor.Q
open Go.RowKit Go.Shelf Go.Proofs.YtgiihjcpgjpkcaaDoorW.PrintWords Go.Proofs.YtgiihjcpgjpkcaaDoorW.PrintLast Go.Proofs.YtgiihjcpgjpkcaaDoorW.PrintMore
set_option linter.unusedVariables false
set_option linter.unusedSimpArgs false
attribute [local go_sem] Oper.semAt_some max2_int min2_int
def prevAt (l : List Int) (k : Nat) : Int := if k = 0 then 0 else rd l ((k - 1 : Nat) : Int)
def okAt (d : List S51) (l : List Int) (k : Nat) : Bool :=
  decide (0 ≤ rd l (k : Int) ∧ rd l (k : Int) ≤ 16777216 ∧ prevAt l k + (rd_T51 d (k : Int)).f0.f0 ≤ rd l (k : Int) ∧ rd l (k : Int) ≤ prevAt l k + (rd_T51 d (k : Int)).f0.f1 ∧
    (((rd_T51 d (k : Int)).f1.f0 = 1 ∧ (rd_T51 d (k : Int)).f1.f1 = 0) ∨ ((rd_T51 d (k : Int)).f1.f0 ≤ rd l (k : Int) ∧ rd l (k : Int) ≤ (rd_T51 d (k : Int)).f1.f1)))
def allOk (d : List S51) (l : List Int) : Bool := (List.range d.length).all (okAt d l)
theorem allOk_iff {d : List S51} {l : List Int} : allOk d l = true ↔ ∀ j, j < d.length → okAt d l j = true := by simp [allOk]
def checkOf (d : List S51) (l : List Int) : Int := if vd d = true then (if l.length = d.length then (if allOk d l = true then 0 else 31) else 1) else 40
theorem prev_range {d : List S51} {l : List Int} {k : Nat} (h : ∀ j, j < k → okAt d l j = true) : 0 ≤ prevAt l k ∧ prevAt l k ≤ 16777216 := by
  unfold prevAt
  by_cases hk : k = 0
  · rw [if_pos hk]; omega
  · rw [if_neg hk]
    have := h (k - 1) (by omega)
    unfold okAt at this
    have := of_decide_eq_true this
    exact ⟨this.1, this.2.1⟩
theorem prev_succ (l : List Int) (k : Nat) : prevAt l (k + 1) = rd l (k : Int) := by
  unfold prevAt
  rw [if_neg (by omega), Nat.add_sub_cancel]
theorem allOk_false {d : List S51} {l : List Int} {k : Nat} (hk : k < d.length) (h : okAt d l k = false) : allOk d l = false := by
  cases hh : allOk d l with
  | false => rfl
  | true => rw [allOk_iff.1 hh k hk] at h; cases h
def refill_CheckTimes.f (l0 : List S51) (l1 : List Int) : Option Int := some (checkOf l0 l1)
set_option maxHeartbeats 16000000 in
set_option maxRecDepth 100000 in
theorem refill_CheckTimes.calls (A0 : Option Addr) (c0 : Nat) (l0 : List S51) (A1 : Option Addr) (c1 : Nat) (l1 : List Int) (r : Int) (w : World) (hr0 : Kd.C k51 w A0 l0.length l0) (hc0 : l0.length ≤ c0) (hr1 : Kd.C (Kd.int .i64) w A1 l1.length l1) (hc1 : l1.length ≤ c1) (h : refill_CheckTimes.f l0 l1 = some r) :
    Calls Tryd.prog 33 #[.slice A0 l0.length c0, .slice A1 l1.length c1] w fun e w' => e = .returned (.int .i64 r) ∧ Below w.heap.size w w' := by
  obtain rfl := Option.some.inj h
  clear h
  have hu49 := Tryd.underlying49
  have hu51 := Tryd.underlying51
  have hck := Check_eq l0 40 (Nat.le_refl _)
  have HR0 := Aside0.mk hr0
  have HC0 := Aside0.mk hc0
  have HR1 := Aside0.mk hr1
  clear hr0 hc0 hr1
  by_cases hv : vd l0 = true
  · rw [if_pos hv] at hck
    have hl32 := (vd_iff.1 hv).2.1
    have HCK := Aside0.mk hck
    have HV := Aside0.mk hv
    by_cases hln : l1.length = l0.length
    · have hce : checkOf l0 l1 = if allOk l0 l1 = true then 0 else 31 := by unfold checkOf; rw [if_pos hv, if_pos hln]
      have HCE := Aside0.mk hce
      have HLN := Aside0.mk hln
      have hln' : ((l1.length : Int) != (l0.length : Int)) = false := by rw [hln, bne_self_eq_false]
      clear hck hv hce hln
      go_enter Tryd.func33, Tryd.ntmps33
      go_wp2_with fail
      refine (refill_Check.calls 40 _ _ l0 _ _ HR0.out HC0.out HCK.out).mono ?_
      rintro en w4 ⟨rfl, hb⟩
      have HB4 := Aside0.mk hb
      clear hb
      go_wp2
      go_loopw [6, 22] (fun v i w' => ∃ (k : Nat), k ≤ l0.length ∧ i = .int .i64 k ∧ v = .int .i64 (prevAt l1 k) ∧ Aside0 (∀ j, j < k → okAt l0 l1 j = true) ∧ Aside0 (Below w.heap.size w w')) (fun _ i _ => l0.length - (intOf i).toNat)
      case atStart => exact ⟨0, Nat.zero_le _, rfl, rfl, ⟨fun j hj => by omega⟩, HB4⟩
      case round =>
        clear HB4
        obtain ⟨k, hk, rfl, rfl, HO, HB⟩ := hrel
        by_cases hlt : k < l0.length
        · obtain ⟨ad, e1, hx0, hx1, hx2, hx3⟩ := at_T51 (Kd.C_below HR0.out HB.out) (k : Int) (by omega) (by omega)
          subst e1
          obtain ⟨al, e2, hn⟩ := Kd.at_int (Kd.C_below HR1.out HB.out) (k : Int) (by omega) (by have := HLN.out; omega)
          subst e2
          have h1k : (k : Int) < (l1.length : Int) := by have := HLN.out; omega
          have hok : evOk (rd_T51 l0 (k : Int)) = true := rd_ok HV.out hlt
          have hpr := prev_range HO.out
          simp only [Int.toNat_natCast] at hx0 hx1 hx2 hx3 hn
          obtain ⟨n, hnn⟩ : ∃ n, n = rd l1 (k : Int) := ⟨_, rfl⟩
          obtain ⟨last, hla⟩ : ∃ n, n = prevAt l1 k := ⟨_, rfl⟩
          obtain ⟨e, hee⟩ : ∃ e, e = rd_T51 l0 (k : Int) := ⟨_, rfl⟩
          have HN := Aside0.mk hnn
          have HLA := Aside0.mk hla
          have HE := Aside0.mk hee
          rw [← hnn] at hn
          rw [← hla] at hpr ⊢
          rw [← hee] at hx0 hx1 hx2 hx3 hok
          have HPR := Aside0.mk hpr
          have HOK := Aside0.mk hok
          clear hnn hla hee hpr hok
          obtain ⟨c1, hc1⟩ : ∃ c, decide (n < 0) = c := ⟨_, rfl⟩
          obtain ⟨c2, hc2⟩ : ∃ c, decide (16777216 < n) = c := ⟨_, rfl⟩
          obtain ⟨m0, hm0⟩ : ∃ s, IntKind.i64.wrap (last + e.f0.f0) = s := ⟨_, rfl⟩
          obtain ⟨m1, hm1⟩ : ∃ s, IntKind.i64.wrap (last + e.f0.f1) = s := ⟨_, rfl⟩
          obtain ⟨c3, hc3⟩ : ∃ c, decide (n < m0) = c := ⟨_, rfl⟩
          obtain ⟨c4, hc4⟩ : ∃ c, decide (m1 < n) = c := ⟨_, rfl⟩
          obtain ⟨c6, hc6⟩ : ∃ c, decide (n < e.f1.f0) = c := ⟨_, rfl⟩
          obtain ⟨c7, hc7⟩ : ∃ c, decide (e.f1.f1 < n) = c := ⟨_, rfl⟩
          obtain ⟨d1, hd1⟩ : ∃ c, (c1 || c2) = c := ⟨_, rfl⟩
          obtain ⟨d2, hd2⟩ : ∃ c, (d1 || c3) = c := ⟨_, rfl⟩
          obtain ⟨d3, hd3⟩ : ∃ c, (d2 || c4) = c := ⟨_, rfl⟩
          obtain ⟨c5, hc5⟩ : ∃ c, decide (¬ (e.f1.f0 = 1 ∧ e.f1.f1 = 0)) = c := ⟨_, rfl⟩
          obtain ⟨bad, hbad⟩ : ∃ c, (d3 || (c5 && (c6 || c7))) = c := ⟨_, rfl⟩
          have hbo : okAt l0 l1 k = !bad := by
            have hp := HPR.out
            have ho := evOk_iff.1 HOK.out
            rw [IntKind.wrap_i64] at hm0 hm1
            have e0 : m0 = last + e.f0.f0 := by omega
            have e1 : m1 = last + e.f0.f1 := by omega
            rw [← hbad, ← hd3, ← hd2, ← hd1, ← hc1, ← hc2, ← hc3, ← hc4, ← hc5, ← hc6, ← hc7, e0, e1]
            unfold okAt
            rw [← HN.out, ← HLA.out, ← HE.out, Bool.eq_iff_iff]
            simp only [decide_eq_true_eq, Bool.not_eq_true', Bool.or_eq_false_iff, Bool.and_eq_false_iff, decide_eq_false_iff_not, Decidable.not_not]
            omega
          have HC5 := Aside0.mk hc5
          have HBO := Aside0.mk hbo
          clear hc5 hbo
          have hnb : (wr.alloc (.cells #[.int .i64 e.f0.f0, .int .i64 e.f0.f1, .int .i64 e.f1.f0, .int .i64 e.f1.f1] 51)).cell? (al.add k) = some (.int .i64 n) := ((below_alloc (Below.refl wr.heap.size wr) _).cell (World.block_lt_of_cell? _ _ hn)).trans hn
          have hbx := Blk.new wr 51 #[.int .i64 e.f0.f0, .int .i64 e.f0.f1, .int .i64 e.f1.f0, .int .i64 e.f1.f1]
          have hbb := below_alloc HB.out (.cells #[.int .i64 e.f0.f0, .int .i64 e.f0.f1, .int .i64 e.f1.f0, .int .i64 e.f1.f1] 51)
          have HBX := Aside0.mk hbx
          have HBB := Aside0.mk hbb
          clear hbx hbb
          obtain ⟨g, hg⟩ : ∃ g, g = wr.heap.size := ⟨_, rfl⟩
          have HG := Aside0.mk hg
          go_wp2_with fail
          have hbx := HBX.out
          have hbb := HBB.out
          rw [← HG.out] at hbx ⊢
          generalize (wr.alloc (.cells #[.int .i64 e.f0.f0, .int .i64 e.f0.f1, .int .i64 e.f1.f0, .int .i64 e.f1.f1] 51)) = wb at hbx hbb ⊢
          clear HBX HBB hnb hg hn hx0 hx1 hx2 hx3
          have hS0 : (fun w' : World => w'.cell? ⟨g, 0, none⟩ = some (.int .i64 e.f0.f0) ∧ w'.cell? ⟨g, 1, none⟩ = some (.int .i64 e.f0.f1) ∧ w'.cell? ⟨g, 2, none⟩ = some (.int .i64 e.f1.f0) ∧ w'.cell? ⟨g, 3, none⟩ = some (.int .i64 e.f1.f1)) wb.drew := ⟨hbx.cell 0, hbx.cell 1, hbx.cell 2, hbx.cell 3⟩
          refine wp_region_held (S := fun w' : World => w'.cell? ⟨g, 0, none⟩ = some (.int .i64 e.f0.f0) ∧ w'.cell? ⟨g, 1, none⟩ = some (.int .i64 e.f0.f1) ∧ w'.cell? ⟨g, 2, none⟩ = some (.int .i64 e.f1.f0) ∧ w'.cell? ⟨g, 3, none⟩ = some (.int .i64 e.f1.f1)) (by kernel_rfl) ?_
          show wpAnyH _ _ _ _ _ _ _ _ wb.drew
          have HBB := Aside0.mk (below_drew hbb)
          have HBX := Aside0.mk (Blk.drew hbx)
          clear hbx hbb
          generalize wb.drew = wc at HBB HBX hS0 ⊢
          refine wpAnyH_take (i := 0) (v := (.int .i64 n)) rfl (by kernel_rfl) (by kernel_rfl) (by kernel_rfl) (fun _ _ _ h => h) ?_ hS0 ?_
          · exact Or.inl ⟨by rfl, by rintro w' ⟨s0, s1, s2, s3⟩; go_simp⟩
          show wpAnyH _ _ _ _ _ _ _ (Act.put _ (some 31) _) _
          simp only [Act.put, List.setIfInBounds_toArray, List.set_cons_zero, List.set_cons_succ]
          refine wpAnyH_take (i := 1) (v := (.bool c1)) rfl (by kernel_rfl) (by kernel_rfl) (by kernel_rfl) (fun _ _ _ h => h) ?_ hS0 ?_
          · exact Or.inl ⟨by rfl, by rintro w' ⟨s0, s1, s2, s3⟩; go_simp⟩
          show wpAnyH _ _ _ _ _ _ _ (Act.put _ (some 32) _) _
          simp only [Act.put, List.setIfInBounds_toArray, List.set_cons_zero, List.set_cons_succ]
          refine wpAnyH_take (i := 2) (v := (.bool c1)) rfl (by kernel_rfl) (by kernel_rfl) (by kernel_rfl) (fun _ _ _ h => h) ?_ hS0 ?_
          · exact Or.inl ⟨by rfl, by rintro w' ⟨s0, s1, s2, s3⟩; go_simp⟩
          show wpAnyH _ _ _ _ _ _ _ (Act.put _ (some 33) _) _
          simp only [Act.put, List.setIfInBounds_toArray, List.set_cons_zero, List.set_cons_succ]
          refine wpAnyH_take (i := 3) (v := (if c1 = true then undef else (.int .i64 n))) rfl (by kernel_rfl) (by kernel_rfl) (by kernel_rfl) (fun _ _ _ h => h) ?_ hS0 ?_
          · cases c1 <;> first | exact Or.inr ⟨by rfl, by rfl⟩ | exact Or.inl ⟨by rfl, by rintro w' ⟨s0, s1, s2, s3⟩; go_simp⟩
          show wpAnyH _ _ _ _ _ _ _ (Act.put _ (some 34) _) _
          simp only [Act.put, List.setIfInBounds_toArray, List.set_cons_zero, List.set_cons_succ]
          refine wpAnyH_take (i := 4) (v := (if c1 = true then undef else (.bool c2))) rfl (by kernel_rfl) (by kernel_rfl) (by kernel_rfl) (fun _ _ _ h => h) ?_ hS0 ?_
          · cases c1 <;> first | exact Or.inr ⟨by rfl, by rfl⟩ | exact Or.inl ⟨by rfl, by rintro w' ⟨s0, s1, s2, s3⟩; go_simp⟩
          show wpAnyH _ _ _ _ _ _ _ (Act.put _ (some 35) _) _
          simp only [Act.put, List.setIfInBounds_toArray, List.set_cons_zero, List.set_cons_succ]
          refine wpAnyH_take (i := 5) (v := (.bool d1)) rfl (by kernel_rfl) (by kernel_rfl) (by kernel_rfl) (fun _ _ _ h => h) ?_ hS0 ?_
          · cases c1 <;> cases c2 <;> first | exact Or.inr ⟨by rfl, by rfl⟩ | exact Or.inl ⟨by rfl, by rintro w' ⟨s0, s1, s2, s3⟩; first | (go_simp; done) | (go_simp; exact hd1.symm)⟩
          show wpAnyH _ _ _ _ _ _ _ (Act.put _ (some 36) _) _
          simp only [Act.put, List.setIfInBounds_toArray, List.set_cons_zero, List.set_cons_succ]
          refine wpAnyH_take (i := 6) (v := (.bool d1)) rfl (by kernel_rfl) (by kernel_rfl) (by kernel_rfl) (fun _ _ _ h => h) ?_ hS0 ?_
          · exact Or.inl ⟨by rfl, by rintro w' ⟨s0, s1, s2, s3⟩; go_simp⟩
          show wpAnyH _ _ _ _ _ _ _ (Act.put _ (some 37) _) _
          simp only [Act.put, List.setIfInBounds_toArray, List.set_cons_zero, List.set_cons_succ]
          refine wpAnyH_take (i := 7) (v := (if d1 = true then undef else (.int .i64 n))) rfl (by kernel_rfl) (by kernel_rfl) (by kernel_rfl) (fun _ _ _ h => h) ?_ hS0 ?_
          · cases d1 <;> first | exact Or.inr ⟨by rfl, by rfl⟩ | exact Or.inl ⟨by rfl, by rintro w' ⟨s0, s1, s2, s3⟩; go_simp⟩
          show wpAnyH _ _ _ _ _ _ _ (Act.put _ (some 38) _) _
          simp only [Act.put, List.setIfInBounds_toArray, List.set_cons_zero, List.set_cons_succ]
          refine wpAnyH_take (i := 8) (v := (if d1 = true then undef else (.int .i64 last))) rfl (by kernel_rfl) (by kernel_rfl) (by kernel_rfl) (fun _ _ _ h => h) ?_ hS0 ?_
          · cases d1 <;> first | exact Or.inr ⟨by rfl, by rfl⟩ | exact Or.inl ⟨by rfl, by rintro w' ⟨s0, s1, s2, s3⟩; go_simp⟩
          show wpAnyH _ _ _ _ _ _ _ (Act.put _ (some 39) _) _
          simp only [Act.put, List.setIfInBounds_toArray, List.set_cons_zero, List.set_cons_succ]
          refine wpAnyH_take (i := 9) (v := (if d1 = true then undef else (.pointer (some ⟨g, 0, none⟩)))) rfl (by kernel_rfl) (by kernel_rfl) (by kernel_rfl) (fun _ _ _ h => h) ?_ hS0 ?_
          · cases d1 <;> first | exact Or.inr ⟨by rfl, by rfl⟩ | exact Or.inl ⟨by rfl, by rintro w' ⟨s0, s1, s2, s3⟩; go_simp⟩
          show wpAnyH _ _ _ _ _ _ _ (Act.put _ (some 40) _) _
          simp only [Act.put, List.setIfInBounds_toArray, List.set_cons_zero, List.set_cons_succ]
          refine wpAnyH_take (i := 10) (v := (if d1 = true then undef else (.pointer (some ⟨g, 0, none⟩)))) rfl (by kernel_rfl) (by kernel_rfl) (by kernel_rfl) (fun _ _ _ h => h) ?_ hS0 ?_
          · cases d1 <;> first | exact Or.inr ⟨by rfl, by rfl⟩ | exact Or.inl ⟨by rfl, by rintro w' ⟨s0, s1, s2, s3⟩; go_simp⟩
          show wpAnyH _ _ _ _ _ _ _ (Act.put _ (some 41) _) _
          simp only [Act.put, List.setIfInBounds_toArray, List.set_cons_zero, List.set_cons_succ]
          refine wpAnyH_take (i := 11) (v := (if d1 = true then undef else (.int .i64 e.f0.f0))) rfl (by kernel_rfl) (by kernel_rfl) (by kernel_rfl) (fun _ _ _ h => h) ?_ hS0 ?_
          · cases d1 <;> first | exact Or.inr ⟨by rfl, by rfl⟩ | exact Or.inl ⟨by rfl, by rintro w' ⟨s0, s1, s2, s3⟩; go_simp⟩
          show wpAnyH _ _ _ _ _ _ _ (Act.put _ (some 42) _) _
          simp only [Act.put, List.setIfInBounds_toArray, List.set_cons_zero, List.set_cons_succ]
          refine wpAnyH_take (i := 12) (v := (if d1 = true then undef else (.int .i64 m0))) rfl (by kernel_rfl) (by kernel_rfl) (by kernel_rfl) (fun _ _ _ h => h) ?_ hS0 ?_
          · cases d1 <;> first | exact Or.inr ⟨by rfl, by rfl⟩ | exact Or.inl ⟨by rfl, by rintro w' ⟨s0, s1, s2, s3⟩; go_simp⟩
          show wpAnyH _ _ _ _ _ _ _ (Act.put _ (some 43) _) _
          simp only [Act.put, List.setIfInBounds_toArray, List.set_cons_zero, List.set_cons_succ]
          refine wpAnyH_take (i := 13) (v := (if d1 = true then undef else (.bool c3))) rfl (by kernel_rfl) (by kernel_rfl) (by kernel_rfl) (fun _ _ _ h => h) ?_ hS0 ?_
          · cases d1 <;> first | exact Or.inr ⟨by rfl, by rfl⟩ | exact Or.inl ⟨by rfl, by rintro w' ⟨s0, s1, s2, s3⟩; go_simp⟩
          show wpAnyH _ _ _ _ _ _ _ (Act.put _ (some 44) _) _
          simp only [Act.put, List.setIfInBounds_toArray, List.set_cons_zero, List.set_cons_succ]
          refine wpAnyH_take (i := 14) (v := (.bool d2)) rfl (by kernel_rfl) (by kernel_rfl) (by kernel_rfl) (fun _ _ _ h => h) ?_ hS0 ?_
          · cases d1 <;> cases c3 <;> first | exact Or.inr ⟨by rfl, by rfl⟩ | exact Or.inl ⟨by rfl, by rintro w' ⟨s0, s1, s2, s3⟩; first | (go_simp; done) | (go_simp; exact hd2.symm)⟩
          show wpAnyH _ _ _ _ _ _ _ (Act.put _ (some 45) _) _
          simp only [Act.put, List.setIfInBounds_toArray, List.set_cons_zero, List.set_cons_succ]
          refine wpAnyH_take (i := 15) (v := (.bool d2)) rfl (by kernel_rfl) (by kernel_rfl) (by kernel_rfl) (fun _ _ _ h => h) ?_ hS0 ?_
          · exact Or.inl ⟨by rfl, by rintro w' ⟨s0, s1, s2, s3⟩; go_simp⟩
          show wpAnyH _ _ _ _ _ _ _ (Act.put _ (some 46) _) _
          simp only [Act.put, List.setIfInBounds_toArray, List.set_cons_zero, List.set_cons_succ]
          refine wpAnyH_take (i := 16) (v := (if d2 = true then undef else (.int .i64 n))) rfl (by kernel_rfl) (by kernel_rfl) (by kernel_rfl) (fun _ _ _ h => h) ?_ hS0 ?_
          · cases d2 <;> first | exact Or.inr ⟨by rfl, by rfl⟩ | exact Or.inl ⟨by rfl, by rintro w' ⟨s0, s1, s2, s3⟩; go_simp⟩
          show wpAnyH _ _ _ _ _ _ _ (Act.put _ (some 47) _) _
          simp only [Act.put, List.setIfInBounds_toArray, List.set_cons_zero, List.set_cons_succ]
          refine wpAnyH_take (i := 17) (v := (if d2 = true then undef else (.int .i64 last))) rfl (by kernel_rfl) (by kernel_rfl) (by kernel_rfl) (fun _ _ _ h => h) ?_ hS0 ?_
          · cases d2 <;> first | exact Or.inr ⟨by rfl, by rfl⟩ | exact Or.inl ⟨by rfl, by rintro w' ⟨s0, s1, s2, s3⟩; go_simp⟩
          show wpAnyH _ _ _ _ _ _ _ (Act.put _ (some 48) _) _
          simp only [Act.put, List.setIfInBounds_toArray, List.set_cons_zero, List.set_cons_succ]
          refine wpAnyH_take (i := 18) (v := (if d2 = true then undef else (.pointer (some ⟨g, 0, none⟩)))) rfl (by kernel_rfl) (by kernel_rfl) (by kernel_rfl) (fun _ _ _ h => h) ?_ hS0 ?_
          · cases d2 <;> first | exact Or.inr ⟨by rfl, by rfl⟩ | exact Or.inl ⟨by rfl, by rintro w' ⟨s0, s1, s2, s3⟩; go_simp⟩
          show wpAnyH _ _ _ _ _ _ _ (Act.put _ (some 49) _) _
          simp only [Act.put, List.setIfInBounds_toArray, List.set_cons_zero, List.set_cons_succ]
          refine wpAnyH_take (i := 19) (v := (if d2 = true then undef else (.pointer (some ⟨g, 1, none⟩)))) rfl (by kernel_rfl) (by kernel_rfl) (by kernel_rfl) (fun _ _ _ h => h) ?_ hS0 ?_
          · cases d2 <;> first | exact Or.inr ⟨by rfl, by rfl⟩ | exact Or.inl ⟨by rfl, by rintro w' ⟨s0, s1, s2, s3⟩; go_simp⟩
          show wpAnyH _ _ _ _ _ _ _ (Act.put _ (some 50) _) _
          simp only [Act.put, List.setIfInBounds_toArray, List.set_cons_zero, List.set_cons_succ]
          refine wpAnyH_take (i := 20) (v := (if d2 = true then undef else (.int .i64 e.f0.f1))) rfl (by kernel_rfl) (by kernel_rfl) (by kernel_rfl) (fun _ _ _ h => h) ?_ hS0 ?_
          · cases d2 <;> first | exact Or.inr ⟨by rfl, by rfl⟩ | exact Or.inl ⟨by rfl, by rintro w' ⟨s0, s1, s2, s3⟩; go_simp⟩
          show wpAnyH _ _ _ _ _ _ _ (Act.put _ (some 51) _) _
          simp only [Act.put, List.setIfInBounds_toArray, List.set_cons_zero, List.set_cons_succ]
          refine wpAnyH_take (i := 21) (v := (if d2 = true then undef else (.int .i64 m1))) rfl (by kernel_rfl) (by kernel_rfl) (by kernel_rfl) (fun _ _ _ h => h) ?_ hS0 ?_
          · cases d2 <;> first | exact Or.inr ⟨by rfl, by rfl⟩ | exact Or.inl ⟨by rfl, by rintro w' ⟨s0, s1, s2, s3⟩; go_simp⟩
          show wpAnyH _ _ _ _ _ _ _ (Act.put _ (some 52) _) _
          simp only [Act.put, List.setIfInBounds_toArray, List.set_cons_zero, List.set_cons_succ]
          refine wpAnyH_take (i := 22) (v := (if d2 = true then undef else (.bool c4))) rfl (by kernel_rfl) (by kernel_rfl) (by kernel_rfl) (fun _ _ _ h => h) ?_ hS0 ?_
          · cases d2 <;> first | exact Or.inr ⟨by rfl, by rfl⟩ | exact Or.inl ⟨by rfl, by rintro w' ⟨s0, s1, s2, s3⟩; go_simp⟩
          show wpAnyH _ _ _ _ _ _ _ (Act.put _ (some 53) _) _
          simp only [Act.put, List.setIfInBounds_toArray, List.set_cons_zero, List.set_cons_succ]
          refine wpAnyH_take (i := 23) (v := (.bool d3)) rfl (by kernel_rfl) (by kernel_rfl) (by kernel_rfl) (fun _ _ _ h => h) ?_ hS0 ?_
          · cases d2 <;> cases c4 <;> first | exact Or.inr ⟨by rfl, by rfl⟩ | exact Or.inl ⟨by rfl, by rintro w' ⟨s0, s1, s2, s3⟩; first | (go_simp; done) | (go_simp; exact hd3.symm)⟩
          show wpAnyH _ _ _ _ _ _ _ (Act.put _ (some 54) _) _
          simp only [Act.put, List.setIfInBounds_toArray, List.set_cons_zero, List.set_cons_succ]
          refine wpAnyH_take (i := 24) (v := (.bool d3)) rfl (by kernel_rfl) (by kernel_rfl) (by kernel_rfl) (fun _ _ _ h => h) ?_ hS0 ?_
          · exact Or.inl ⟨by rfl, by rintro w' ⟨s0, s1, s2, s3⟩; go_simp⟩
          show wpAnyH _ _ _ _ _ _ _ (Act.put _ (some 55) _) _
          simp only [Act.put, List.setIfInBounds_toArray, List.set_cons_zero, List.set_cons_succ]
          refine wpAnyH_take (i := 25) (v := (if d3 = true then undef else (.pointer (some ⟨g, 2, none⟩)))) rfl (by kernel_rfl) (by kernel_rfl) (by kernel_rfl) (fun _ _ _ h => h) ?_ hS0 ?_
          · cases d3 <;> first | exact Or.inr ⟨by rfl, by rfl⟩ | exact Or.inl ⟨by rfl, by rintro w' ⟨s0, s1, s2, s3⟩; go_simp⟩
          show wpAnyH _ _ _ _ _ _ _ (Act.put _ (some 56) _) _
          simp only [Act.put, List.setIfInBounds_toArray, List.set_cons_zero, List.set_cons_succ]
          refine wpAnyH_take (i := 26) (v := (if d3 = true then undef else (.agg #[.int .i64 e.f1.f0, .int .i64 e.f1.f1]))) rfl (by kernel_rfl) (by kernel_rfl) (by kernel_rfl) (fun _ _ _ h => h) ?_ hS0 ?_
          · cases d3 <;> first | exact Or.inr ⟨by rfl, by rfl⟩ | exact Or.inl ⟨by rfl, by rintro w' ⟨s0, s1, s2, s3⟩; go_simp⟩
          show wpAnyH _ _ _ _ _ _ _ (Act.put _ (some 57) _) _
          simp only [Act.put, List.setIfInBounds_toArray, List.set_cons_zero, List.set_cons_succ]
          generalize (if c1 = true then undef else (Value.int .i64 n) : Value) = z0
          generalize (if c1 = true then undef else (Value.bool c2) : Value) = z1
          generalize (if d1 = true then undef else (Value.int .i64 n) : Value) = z2
          generalize (if d1 = true then undef else (Value.int .i64 last) : Value) = z3
          generalize (if d1 = true then undef else (Value.pointer (some ⟨g, 0, none⟩)) : Value) = z4
          generalize (if d1 = true then undef else (Value.int .i64 e.f0.f0) : Value) = z5
          generalize (if d1 = true then undef else (Value.int .i64 m0) : Value) = z6
          generalize (if d1 = true then undef else (Value.bool c3) : Value) = z7
          generalize (if d2 = true then undef else (Value.int .i64 n) : Value) = z8
          generalize (if d2 = true then undef else (Value.int .i64 last) : Value) = z9
          generalize (if d2 = true then undef else (Value.pointer (some ⟨g, 0, none⟩)) : Value) = z10
          generalize (if d2 = true then undef else (Value.pointer (some ⟨g, 1, none⟩)) : Value) = z11
          generalize (if d2 = true then undef else (Value.int .i64 e.f0.f1) : Value) = z12
          generalize (if d2 = true then undef else (Value.int .i64 m1) : Value) = z13
          generalize (if d2 = true then undef else (Value.bool c4) : Value) = z14
          refine wpAnyH_ready (rs := [27]) (by kernel_rfl) (by simp) ?_
          refine AllReadyH.cons rfl (fun K hK => ?_) AllReadyH.nil
          have HS0 := Aside0.mk hS0
          clear hS0
          cases d3
          · go_simp
            refine (refill_unknown.calls 1 0 _ rfl).mono ?_
            rintro en w7 ⟨rfl, hb7⟩
            have HB7 := Aside0.mk (HBB.out.trans (hb7.mono HBB.out.size))
            have hbx := HBX.out.below' hb7
            refine hK.out _ _ ⟨hbx.cell 0, hbx.cell 1, hbx.cell 2, hbx.cell 3⟩ (fun hS1 => ?_)
            clear hK K HS0 hb7 hbx
            refine wpAnyH_take (i := 28) (v := (.bool c5)) rfl (by kernel_rfl) (by kernel_rfl) (by kernel_rfl) (fun _ _ _ h => h) ?_ hS1 ?_
            · exact Or.inl ⟨by rfl, by rintro w' ⟨s0, s1, s2, s3⟩; go_simp; have q5 := HC5.out; by_cases q1 : e.f1.f0 = 1 <;> by_cases q2 : e.f1.f1 = 0 <;> simp [q1, q2] at q5 ⊢ <;> first | exact q5 | exact q5.symm⟩
            show wpAnyH _ _ _ _ _ _ _ (Act.put _ (some 59) _) _
            simp only [Act.put, List.setIfInBounds_toArray, List.set_cons_zero, List.set_cons_succ]
            refine wpAnyH_take (i := 29) (v := (.bool c5)) rfl (by kernel_rfl) (by kernel_rfl) (by kernel_rfl) (fun _ _ _ h => h) ?_ hS1 ?_
            · exact Or.inl ⟨by rfl, by rintro w' ⟨s0, s1, s2, s3⟩; go_simp⟩
            show wpAnyH _ _ _ _ _ _ _ (Act.put _ (some 60) _) _
            simp only [Act.put, List.setIfInBounds_toArray, List.set_cons_zero, List.set_cons_succ]
            refine wpAnyH_take (i := 30) (v := (if c5 = true then (.int .i64 n) else undef)) rfl (by kernel_rfl) (by kernel_rfl) (by kernel_rfl) (fun _ _ _ h => h) ?_ hS1 ?_
            · cases c5 <;> first | exact Or.inr ⟨by rfl, by rfl⟩ | exact Or.inl ⟨by rfl, by rintro w' ⟨s0, s1, s2, s3⟩; go_simp⟩
            show wpAnyH _ _ _ _ _ _ _ (Act.put _ (some 61) _) _
            simp only [Act.put, List.setIfInBounds_toArray, List.set_cons_zero, List.set_cons_succ]
            refine wpAnyH_take (i := 31) (v := (if c5 = true then (.pointer (some ⟨g, 2, none⟩)) else undef)) rfl (by kernel_rfl) (by kernel_rfl) (by kernel_rfl) (fun _ _ _ h => h) ?_ hS1 ?_
            · cases c5 <;> first | exact Or.inr ⟨by rfl, by rfl⟩ | exact Or.inl ⟨by rfl, by rintro w' ⟨s0, s1, s2, s3⟩; go_simp⟩
            show wpAnyH _ _ _ _ _ _ _ (Act.put _ (some 62) _) _
            simp only [Act.put, List.setIfInBounds_toArray, List.set_cons_zero, List.set_cons_succ]
            refine wpAnyH_take (i := 32) (v := (if c5 = true then (.pointer (some ⟨g, 2, none⟩)) else undef)) rfl (by kernel_rfl) (by kernel_rfl) (by kernel_rfl) (fun _ _ _ h => h) ?_ hS1 ?_
            · cases c5 <;> first | exact Or.inr ⟨by rfl, by rfl⟩ | exact Or.inl ⟨by rfl, by rintro w' ⟨s0, s1, s2, s3⟩; go_simp⟩
            show wpAnyH _ _ _ _ _ _ _ (Act.put _ (some 63) _) _
            simp only [Act.put, List.setIfInBounds_toArray, List.set_cons_zero, List.set_cons_succ]
            refine wpAnyH_take (i := 33) (v := (if c5 = true then (.int .i64 e.f1.f0) else undef)) rfl (by kernel_rfl) (by kernel_rfl) (by kernel_rfl) (fun _ _ _ h => h) ?_ hS1 ?_
            · cases c5 <;> first | exact Or.inr ⟨by rfl, by rfl⟩ | exact Or.inl ⟨by rfl, by rintro w' ⟨s0, s1, s2, s3⟩; go_simp⟩
            show wpAnyH _ _ _ _ _ _ _ (Act.put _ (some 64) _) _
            simp only [Act.put, List.setIfInBounds_toArray, List.set_cons_zero, List.set_cons_succ]
            refine wpAnyH_take (i := 34) (v := (if c5 = true then (.bool c6) else undef)) rfl (by kernel_rfl) (by kernel_rfl) (by kernel_rfl) (fun _ _ _ h => h) ?_ hS1 ?_
            · cases c5 <;> first | exact Or.inr ⟨by rfl, by rfl⟩ | exact Or.inl ⟨by rfl, by rintro w' ⟨s0, s1, s2, s3⟩; go_simp⟩
            show wpAnyH _ _ _ _ _ _ _ (Act.put _ (some 65) _) _
            simp only [Act.put, List.setIfInBounds_toArray, List.set_cons_zero, List.set_cons_succ]
            refine wpAnyH_take (i := 35) (v := (if c5 = true then (.bool c6) else undef)) rfl (by kernel_rfl) (by kernel_rfl) (by kernel_rfl) (fun _ _ _ h => h) ?_ hS1 ?_
            · cases c5 <;> first | exact Or.inr ⟨by rfl, by rfl⟩ | exact Or.inl ⟨by rfl, by rintro w' ⟨s0, s1, s2, s3⟩; go_simp⟩
            show wpAnyH _ _ _ _ _ _ _ (Act.put _ (some 66) _) _
            simp only [Act.put, List.setIfInBounds_toArray, List.set_cons_zero, List.set_cons_succ]
            refine wpAnyH_take (i := 36) (v := (if c5 = true then (if c6 = true then undef else (.int .i64 n)) else undef)) rfl (by kernel_rfl) (by kernel_rfl) (by kernel_rfl) (fun _ _ _ h => h) ?_ hS1 ?_
            · cases c5 <;> cases c6 <;> first | exact Or.inr ⟨by rfl, by rfl⟩ | exact Or.inl ⟨by rfl, by rintro w' ⟨s0, s1, s2, s3⟩; go_simp⟩
            show wpAnyH _ _ _ _ _ _ _ (Act.put _ (some 67) _) _
            simp only [Act.put, List.setIfInBounds_toArray, List.set_cons_zero, List.set_cons_succ]
            refine wpAnyH_take (i := 37) (v := (if c5 = true then (if c6 = true then undef else (.pointer (some ⟨g, 2, none⟩))) else undef)) rfl (by kernel_rfl) (by kernel_rfl) (by kernel_rfl) (fun _ _ _ h => h) ?_ hS1 ?_
            · cases c5 <;> cases c6 <;> first | exact Or.inr ⟨by rfl, by rfl⟩ | exact Or.inl ⟨by rfl, by rintro w' ⟨s0, s1, s2, s3⟩; go_simp⟩
            show wpAnyH _ _ _ _ _ _ _ (Act.put _ (some 68) _) _
            simp only [Act.put, List.setIfInBounds_toArray, List.set_cons_zero, List.set_cons_succ]
            refine wpAnyH_take (i := 38) (v := (if c5 = true then (if c6 = true then undef else (.pointer (some ⟨g, 3, none⟩))) else undef)) rfl (by kernel_rfl) (by kernel_rfl) (by kernel_rfl) (fun _ _ _ h => h) ?_ hS1 ?_
            · cases c5 <;> cases c6 <;> first | exact Or.inr ⟨by rfl, by rfl⟩ | exact Or.inl ⟨by rfl, by rintro w' ⟨s0, s1, s2, s3⟩; go_simp⟩
            show wpAnyH _ _ _ _ _ _ _ (Act.put _ (some 69) _) _
            simp only [Act.put, List.setIfInBounds_toArray, List.set_cons_zero, List.set_cons_succ]
            refine wpAnyH_take (i := 39) (v := (if c5 = true then (if c6 = true then undef else (.int .i64 e.f1.f1)) else undef)) rfl (by kernel_rfl) (by kernel_rfl) (by kernel_rfl) (fun _ _ _ h => h) ?_ hS1 ?_
            · cases c5 <;> cases c6 <;> first | exact Or.inr ⟨by rfl, by rfl⟩ | exact Or.inl ⟨by rfl, by rintro w' ⟨s0, s1, s2, s3⟩; go_simp⟩
            show wpAnyH _ _ _ _ _ _ _ (Act.put _ (some 70) _) _
            simp only [Act.put, List.setIfInBounds_toArray, List.set_cons_zero, List.set_cons_succ]
            refine wpAnyH_take (i := 40) (v := (if c5 = true then (if c6 = true then undef else (.bool c7)) else undef)) rfl (by kernel_rfl) (by kernel_rfl) (by kernel_rfl) (fun _ _ _ h => h) ?_ hS1 ?_
            · cases c5 <;> cases c6 <;> first | exact Or.inr ⟨by rfl, by rfl⟩ | exact Or.inl ⟨by rfl, by rintro w' ⟨s0, s1, s2, s3⟩; go_simp⟩
            show wpAnyH _ _ _ _ _ _ _ (Act.put _ (some 71) _) _
            simp only [Act.put, List.setIfInBounds_toArray, List.set_cons_zero, List.set_cons_succ]
            refine wpAnyH_take (i := 41) (v := (if c5 = true then (.bool (c6 || c7)) else undef)) rfl (by kernel_rfl) (by kernel_rfl) (by kernel_rfl) (fun _ _ _ h => h) ?_ hS1 ?_
            · cases c5 <;> cases c6 <;> cases c7 <;> first | exact Or.inr ⟨by rfl, by rfl⟩ | exact Or.inl ⟨by rfl, by rintro w' ⟨s0, s1, s2, s3⟩; go_simp⟩
            show wpAnyH _ _ _ _ _ _ _ (Act.put _ (some 72) _) _
            simp only [Act.put, List.setIfInBounds_toArray, List.set_cons_zero, List.set_cons_succ]
            refine wpAnyH_take (i := 42) (v := (.bool (c5 && (c6 || c7)))) rfl (by kernel_rfl) (by kernel_rfl) (by kernel_rfl) (fun _ _ _ h => h) ?_ hS1 ?_
            · cases c5 <;> cases c6 <;> cases c7 <;> first | exact Or.inr ⟨by rfl, by rfl⟩ | exact Or.inl ⟨by rfl, by rintro w' ⟨s0, s1, s2, s3⟩; go_simp⟩
            show wpAnyH _ _ _ _ _ _ _ (Act.put _ (some 73) _) _
            simp only [Act.put, List.setIfInBounds_toArray, List.set_cons_zero, List.set_cons_succ]
            refine wpAnyH_take (i := 43) (v := (.bool bad)) rfl (by kernel_rfl) (by kernel_rfl) (by kernel_rfl) (fun _ _ _ h => h) ?_ hS1 ?_
            · cases c5 <;> cases c6 <;> cases c7 <;> first | exact Or.inr ⟨by rfl, by rfl⟩ | exact Or.inl ⟨by rfl, by rintro w' ⟨s0, s1, s2, s3⟩; first | (go_simp; done) | (go_simp; exact hbad.symm)⟩
            show wpAnyH _ _ _ _ _ _ _ (Act.put _ (some 74) _) _
            simp only [Act.put, List.setIfInBounds_toArray, List.set_cons_zero, List.set_cons_succ]
            refine wpAnyH_done (by kernel_rfl) ?_ _
            clear hS1 HBX
            generalize (if c5 = true then (Value.int .i64 n) else undef : Value) = z0
            generalize (if c5 = true then (Value.pointer (some ⟨g, 2, none⟩)) else undef : Value) = z1
            generalize (if c5 = true then (Value.int .i64 e.f1.f0) else undef : Value) = z2
            generalize (if c5 = true then (Value.bool c6) else undef : Value) = z3
            generalize (if c5 = true then (if c6 = true then undef else (Value.int .i64 n)) else undef : Value) = z4
            generalize (if c5 = true then (if c6 = true then undef else (Value.pointer (some ⟨g, 2, none⟩))) else undef : Value) = z5
            generalize (if c5 = true then (if c6 = true then undef else (Value.pointer (some ⟨g, 3, none⟩))) else undef : Value) = z6
            generalize (if c5 = true then (if c6 = true then undef else (Value.int .i64 e.f1.f1)) else undef : Value) = z7
            generalize (if c5 = true then (if c6 = true then undef else (Value.bool c7)) else undef : Value) = z8
            generalize (if c5 = true then (Value.bool (c6 || c7)) else undef : Value) = z9
            cases bad
            · clear hbad
              go_wp2
              go_roundw
              case rel => exact ⟨k + 1, by omega, by simp, by rw [prev_succ, HN.out], ⟨fun j hj => by
                rcases Nat.lt_or_ge j k with h | h
                · exact HO.out j h
                · obtain rfl : j = k := by omega
                  exact HBO.out⟩, HB7⟩
              case measure => simp [intOf]; omega
            · clear hbad
              go_wp2
              go_ret
              exact ⟨by rw [HCE.out, allOk_false hlt HBO.out]; rfl, HB7.out⟩
          · go_simp
            refine hK.out _ _ HS0.out (fun hS1 => ?_)
            clear hK K HS0
            have hbt : bad = true := by rw [← hbad]; rfl
            subst hbt
            refine wpAnyH_take (i := 28) (v := undef) rfl (by kernel_rfl) (by kernel_rfl) (by kernel_rfl) (fun _ _ _ h => h) (Or.inr ⟨by rfl, rfl⟩) hS1 ?_
            show wpAnyH _ _ _ _ _ _ _ (Act.put _ (some 59) _) _
            simp only [Act.put, List.setIfInBounds_toArray, List.set_cons_zero, List.set_cons_succ]
            refine wpAnyH_take (i := 29) (v := undef) rfl (by kernel_rfl) (by kernel_rfl) (by kernel_rfl) (fun _ _ _ h => h) (Or.inr ⟨by rfl, rfl⟩) hS1 ?_
            show wpAnyH _ _ _ _ _ _ _ (Act.put _ (some 60) _) _
            simp only [Act.put, List.setIfInBounds_toArray, List.set_cons_zero, List.set_cons_succ]
            refine wpAnyH_take (i := 30) (v := undef) rfl (by kernel_rfl) (by kernel_rfl) (by kernel_rfl) (fun _ _ _ h => h) (Or.inr ⟨by rfl, rfl⟩) hS1 ?_
            show wpAnyH _ _ _ _ _ _ _ (Act.put _ (some 61) _) _
            simp only [Act.put, List.setIfInBounds_toArray, List.set_cons_zero, List.set_cons_succ]
            refine wpAnyH_take (i := 31) (v := undef) rfl (by kernel_rfl) (by kernel_rfl) (by kernel_rfl) (fun _ _ _ h => h) (Or.inr ⟨by rfl, rfl⟩) hS1 ?_
            show wpAnyH _ _ _ _ _ _ _ (Act.put _ (some 62) _) _
            simp only [Act.put, List.setIfInBounds_toArray, List.set_cons_zero, List.set_cons_succ]
            refine wpAnyH_take (i := 32) (v := undef) rfl (by kernel_rfl) (by kernel_rfl) (by kernel_rfl) (fun _ _ _ h => h) (Or.inr ⟨by rfl, rfl⟩) hS1 ?_
            show wpAnyH _ _ _ _ _ _ _ (Act.put _ (some 63) _) _
            simp only [Act.put, List.setIfInBounds_toArray, List.set_cons_zero, List.set_cons_succ]
            refine wpAnyH_take (i := 33) (v := undef) rfl (by kernel_rfl) (by kernel_rfl) (by kernel_rfl) (fun _ _ _ h => h) (Or.inr ⟨by rfl, rfl⟩) hS1 ?_
            show wpAnyH _ _ _ _ _ _ _ (Act.put _ (some 64) _) _
            simp only [Act.put, List.setIfInBounds_toArray, List.set_cons_zero, List.set_cons_succ]
            refine wpAnyH_take (i := 34) (v := undef) rfl (by kernel_rfl) (by kernel_rfl) (by kernel_rfl) (fun _ _ _ h => h) (Or.inr ⟨by rfl, rfl⟩) hS1 ?_
            show wpAnyH _ _ _ _ _ _ _ (Act.put _ (some 65) _) _
            simp only [Act.put, List.setIfInBounds_toArray, List.set_cons_zero, List.set_cons_succ]
            refine wpAnyH_take (i := 35) (v := undef) rfl (by kernel_rfl) (by kernel_rfl) (by kernel_rfl) (fun _ _ _ h => h) (Or.inr ⟨by rfl, rfl⟩) hS1 ?_
            show wpAnyH _ _ _ _ _ _ _ (Act.put _ (some 66) _) _
            simp only [Act.put, List.setIfInBounds_toArray, List.set_cons_zero, List.set_cons_succ]
            refine wpAnyH_take (i := 36) (v := undef) rfl (by kernel_rfl) (by kernel_rfl) (by kernel_rfl) (fun _ _ _ h => h) (Or.inr ⟨by rfl, rfl⟩) hS1 ?_
            show wpAnyH _ _ _ _ _ _ _ (Act.put _ (some 67) _) _
            simp only [Act.put, List.setIfInBounds_toArray, List.set_cons_zero, List.set_cons_succ]
            refine wpAnyH_take (i := 37) (v := undef) rfl (by kernel_rfl) (by kernel_rfl) (by kernel_rfl) (fun _ _ _ h => h) (Or.inr ⟨by rfl, rfl⟩) hS1 ?_
            show wpAnyH _ _ _ _ _ _ _ (Act.put _ (some 68) _) _
            simp only [Act.put, List.setIfInBounds_toArray, List.set_cons_zero, List.set_cons_succ]
            refine wpAnyH_take (i := 38) (v := undef) rfl (by kernel_rfl) (by kernel_rfl) (by kernel_rfl) (fun _ _ _ h => h) (Or.inr ⟨by rfl, rfl⟩) hS1 ?_
            show wpAnyH _ _ _ _ _ _ _ (Act.put _ (some 69) _) _
            simp only [Act.put, List.setIfInBounds_toArray, List.set_cons_zero, List.set_cons_succ]
            refine wpAnyH_take (i := 39) (v := undef) rfl (by kernel_rfl) (by kernel_rfl) (by kernel_rfl) (fun _ _ _ h => h) (Or.inr ⟨by rfl, rfl⟩) hS1 ?_
            show wpAnyH _ _ _ _ _ _ _ (Act.put _ (some 70) _) _
            simp only [Act.put, List.setIfInBounds_toArray, List.set_cons_zero, List.set_cons_succ]
            refine wpAnyH_take (i := 40) (v := undef) rfl (by kernel_rfl) (by kernel_rfl) (by kernel_rfl) (fun _ _ _ h => h) (Or.inr ⟨by rfl, rfl⟩) hS1 ?_
            show wpAnyH _ _ _ _ _ _ _ (Act.put _ (some 71) _) _
            simp only [Act.put, List.setIfInBounds_toArray, List.set_cons_zero, List.set_cons_succ]
            refine wpAnyH_take (i := 41) (v := undef) rfl (by kernel_rfl) (by kernel_rfl) (by kernel_rfl) (fun _ _ _ h => h) (Or.inr ⟨by rfl, rfl⟩) hS1 ?_
            show wpAnyH _ _ _ _ _ _ _ (Act.put _ (some 72) _) _
            simp only [Act.put, List.setIfInBounds_toArray, List.set_cons_zero, List.set_cons_succ]
            refine wpAnyH_take (i := 42) (v := undef) rfl (by kernel_rfl) (by kernel_rfl) (by kernel_rfl) (fun _ _ _ h => h) (Or.inr ⟨by rfl, rfl⟩) hS1 ?_
            show wpAnyH _ _ _ _ _ _ _ (Act.put _ (some 73) _) _
            simp only [Act.put, List.setIfInBounds_toArray, List.set_cons_zero, List.set_cons_succ]
            refine wpAnyH_take (i := 43) (v := (.bool true)) rfl (by kernel_rfl) (by kernel_rfl) (by kernel_rfl) (fun _ _ _ h => h) ?_ hS1 ?_
            · exact Or.inl ⟨by rfl, by rintro w' ⟨s0, s1, s2, s3⟩; go_simp⟩
            show wpAnyH _ _ _ _ _ _ _ (Act.put _ (some 74) _) _
            simp only [Act.put, List.setIfInBounds_toArray, List.set_cons_zero, List.set_cons_succ]
            refine wpAnyH_done (by kernel_rfl) ?_ _
            clear hS1 HBX hbad
            go_wp2
            go_ret
            exact ⟨by rw [HCE.out, allOk_false hlt HBO.out]; rfl, HBB.out⟩
        · obtain rfl : k = l0.length := by omega
          go_wp2
          go_ret
          exact ⟨by rw [HCE.out, if_pos (allOk_iff.2 HO.out)]; rfl, HB.out⟩
    · have hce : checkOf l0 l1 = 1 := by unfold checkOf; rw [if_pos hv, if_neg hln]
      have HCE := Aside0.mk hce
      have hln' : ((l1.length : Int) != (l0.length : Int)) = true := bne_iff_ne.mpr (by omega)
      clear hck hv hce hln
      go_enter Tryd.func33, Tryd.ntmps33
      go_wp2_with fail
      refine (refill_Check.calls 40 _ _ l0 _ _ HR0.out HC0.out HCK.out).mono ?_
      rintro en w4 ⟨rfl, hb⟩
      go_wp2
      go_ret
      exact ⟨by rw [HCE.out]; rfl, hb⟩
  · rw [if_neg hv] at hck
    have hce : checkOf l0 l1 = 40 := by unfold checkOf; rw [if_neg hv]
    have HCE := Aside0.mk hce
    have HCK := Aside0.mk hck
    clear hck hv hce
    go_enter Tryd.func33, Tryd.ntmps33
    go_wp2_with fail
    refine (refill_Check.calls 40 _ _ l0 _ _ HR0.out HC0.out HCK.out).mono ?_
    rintro en w4 ⟨rfl, hb⟩
    go_wp2
    go_ret
    exact ⟨by rw [HCE.out]; rfl, hb⟩
end Go.Proofs.YtgiihjcpgjpkcaaDoor.Q
