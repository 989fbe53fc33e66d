/- The contract of the reference's CheckTimes: at every day and list that lie in memory, whether the day allows the minutes. -/
import Derived.Test.YtgiihjcpgjpkcaaDoorHCheck
import Derived.Test.YtgiihjcpgjpkcaaDoorHRefV
namespace Go.Proofs.YtgiihjcpgjpkcaaDoor.Q
open Go.RowKit Go.Shelf Go.Proofs.YtgiihjcpgjpkcaaDoorW.PrintWords Go.Proofs.YtgiihjcpgjpkcaaDoorW.PrintLast Go.Proofs.YtgiihjcpgjpkcaaDoorW.PrintMore
set_option linter.unusedVariables false
set_option linter.unusedSimpArgs false
attribute [local go_sem] Oper.semAt_some max2_int min2_int

def waterhourref04_CheckTimes.f (l0 : List S51) (l1 : List Int) : Option Int := some (checkOf l0 l1)
set_option maxHeartbeats 16000000 in
set_option maxRecDepth 100000 in
theorem waterhourref04_CheckTimes.calls (A0 : Option Addr) (c0 : Nat) (l0 : List S51) (A1 : Option Addr) (c1 : Nat) (l1 : List Int) (r : Int) (w : World) (hr0 : Kd.C k51 w A0 l0.length l0) (hc0 : l0.length ≤ c0) (hr1 : Kd.C (Kd.int .i64) w A1 l1.length l1) (hc1 : l1.length ≤ c1) (h : waterhourref04_CheckTimes.f l0 l1 = some r) :
    Calls Tryd.prog 49 #[.slice A0 l0.length c0, .slice A1 l1.length c1] w fun e w' => e = .returned (.int .i64 r) ∧ Below w.heap.size w w' := by
  obtain rfl := Option.some.inj h
  clear h
  have hu49 := Tryd.underlying49
  have hu51 := Tryd.underlying51
  have hck := Valid_eq l0 40 (Nat.le_refl _)
  have HR0 := Aside0.mk hr0
  have HC0 := Aside0.mk hc0
  have HR1 := Aside0.mk hr1
  clear hr0 hc0 hr1
  by_cases hv : vd l0 = true
  · rw [hv] at hck
    have hl32 := (vd_iff.1 hv).2.1
    have HCK := Aside0.mk hck
    have HV := Aside0.mk hv
    by_cases hln : l1.length = l0.length
    · have hce : checkOf l0 l1 = if allOk l0 l1 = true then 0 else 31 := by unfold checkOf; rw [if_pos hv, if_pos hln]
      have HCE := Aside0.mk hce
      have HLN := Aside0.mk hln
      have hln' : ((l1.length : Int) != (l0.length : Int)) = false := by rw [hln, bne_self_eq_false]
      clear hck hv hce hln
      go_enter Tryd.func49, Tryd.ntmps49
      go_wp2_with fail
      refine (waterhourref04_Valid.calls 40 _ _ l0 _ _ HR0.out HC0.out HCK.out).mono ?_
      rintro en w4 ⟨rfl, hb⟩
      have HB4 := Aside0.mk hb
      clear hb
      go_wp2
      go_loopw [5, 6] (fun v i w' => ∃ (k : Nat), k ≤ l0.length ∧ i = .int .i64 k ∧ v = .int .i64 (prevAt l1 k) ∧ Aside0 (∀ j, j < k → okAt l0 l1 j = true) ∧ Aside0 (Below w.heap.size w w')) (fun _ i _ => l0.length - (intOf i).toNat)
      case atStart => exact ⟨0, Nat.zero_le _, rfl, rfl, ⟨fun j hj => by omega⟩, HB4⟩
      case round =>
        clear HB4
        obtain ⟨k, hk, rfl, rfl, HO, HB⟩ := hrel
        by_cases hlt : k < l0.length
        · obtain ⟨ad, e1, hx0, hx1, hx2, hx3⟩ := at_T51 (Kd.C_below HR0.out HB.out) (k : Int) (by omega) (by omega)
          subst e1
          obtain ⟨al, e2, hn⟩ := Kd.at_int (Kd.C_below HR1.out HB.out) (k : Int) (by omega) (by have := HLN.out; omega)
          subst e2
          have h1k : (k : Int) < (l1.length : Int) := by have := HLN.out; omega
          have hok : evOk (rd_T51 l0 (k : Int)) = true := rd_ok HV.out hlt
          have hpr := prev_range HO.out
          simp only [Int.toNat_natCast] at hx0 hx1 hx2 hx3 hn
          obtain ⟨n, hnn⟩ : ∃ n, n = rd l1 (k : Int) := ⟨_, rfl⟩
          obtain ⟨last, hla⟩ : ∃ n, n = prevAt l1 k := ⟨_, rfl⟩
          obtain ⟨e, hee⟩ : ∃ e, e = rd_T51 l0 (k : Int) := ⟨_, rfl⟩
          have HN := Aside0.mk hnn
          have HLA := Aside0.mk hla
          have HE := Aside0.mk hee
          rw [← hnn] at hn
          rw [← hla] at hpr ⊢
          rw [← hee] at hx0 hx1 hx2 hx3 hok
          have HPR := Aside0.mk hpr
          have HOK := Aside0.mk hok
          clear hnn hla hee hpr hok
          obtain ⟨b1, hb1⟩ : ∃ c, decide (n < 0) = c := ⟨_, rfl⟩
          obtain ⟨b2, hb2⟩ : ∃ c, decide (16777216 < n) = c := ⟨_, rfl⟩
          obtain ⟨q0, hq0⟩ : ∃ s, IntKind.i64.wrap (n - last) = s := ⟨_, rfl⟩
          obtain ⟨b3, hb3⟩ : ∃ c, decide (q0 < e.f0.f0) = c := ⟨_, rfl⟩
          obtain ⟨b4, hb4⟩ : ∃ c, decide (e.f0.f1 < q0) = c := ⟨_, rfl⟩
          obtain ⟨b6, hb6⟩ : ∃ c, decide (n < e.f1.f0) = c := ⟨_, rfl⟩
          obtain ⟨b7, hb7⟩ : ∃ c, decide (e.f1.f1 < n) = c := ⟨_, rfl⟩
          obtain ⟨d1, hd1⟩ : ∃ c, (b1 || b2) = c := ⟨_, rfl⟩
          obtain ⟨d2, hd2⟩ : ∃ c, (d1 || b3) = c := ⟨_, rfl⟩
          obtain ⟨d3, hd3⟩ : ∃ c, (d2 || b4) = c := ⟨_, rfl⟩
          obtain ⟨kn, hkn⟩ : ∃ c, decide (e.f1.f0 ≤ e.f1.f1) = c := ⟨_, rfl⟩
          obtain ⟨bad, hbad⟩ : ∃ c, (kn && (b6 || b7)) = c := ⟨_, rfl⟩
          have hbo : okAt l0 l1 k = !(d3 || bad) := by
            have hp := HPR.out
            have ho := evOk_iff.1 HOK.out
            rw [IntKind.wrap_i64] at hq0
            rw [← hbad, ← hkn, ← hd3, ← hd2, ← hd1, ← hb1, ← hb2, ← hb3, ← hb4, ← hb6, ← hb7]
            unfold okAt
            rw [← HN.out, ← HLA.out, ← HE.out, Bool.eq_iff_iff]
            simp only [decide_eq_true_eq, Bool.not_eq_true', Bool.or_eq_false_iff, Bool.and_eq_false_iff, decide_eq_false_iff_not, Decidable.not_not]
            by_cases hr : 0 ≤ n ∧ n ≤ 16777216
            · have e0 : q0 = n - last := by omega
              rw [e0]
              omega
            · omega
          have HBO := Aside0.mk hbo
          have HKN := Aside0.mk hkn
          clear hbo hkn
          go_wp2_with fail
          have hS0 : (fun w' : World => w'.cell? (al.add k) = some (.int .i64 n) ∧ w'.cell? (ad.add (k * 4)) = some (.int .i64 e.f0.f0) ∧ w'.cell? ⟨(ad.add (k * 4)).block, (ad.add (k * 4)).off + 1, none⟩ = some (.int .i64 e.f0.f1)) wr.drew := ⟨hn, hx0, hx1⟩
          have hS2 : (fun w' : World => w'.cell? (al.add k) = some (.int .i64 n) ∧ w'.cell? ⟨(ad.add (k * 4)).block, (ad.add (k * 4)).off + 2, none⟩ = some (.int .i64 e.f1.f0) ∧ w'.cell? ⟨(ad.add (k * 4)).block, (ad.add (k * 4)).off + 3, none⟩ = some (.int .i64 e.f1.f1)) wr := ⟨hn, hx2, hx3⟩
          have HS2 := Aside0.mk hS2
          clear hn hx0 hx1 hx2 hx3 hS2
          refine wp_region_held (S := fun w' : World => w'.cell? (al.add k) = some (.int .i64 n) ∧ w'.cell? (ad.add (k * 4)) = some (.int .i64 e.f0.f0) ∧ w'.cell? ⟨(ad.add (k * 4)).block, (ad.add (k * 4)).off + 1, none⟩ = some (.int .i64 e.f0.f1)) (by kernel_rfl) ?_
          show wpAnyH _ _ _ _ _ _ _ _ wr.drew
          refine wpAnyH_take (i := 0) (v := (.slice (some al) l1.length c1)) rfl (by kernel_rfl) (by kernel_rfl) (by kernel_rfl) (fun _ _ _ h => h) ?_ hS0 ?_
          · exact Or.inl ⟨by rfl, by rintro w' ⟨s0, s1, s2⟩; go_simp⟩
          show wpAnyH _ _ _ _ _ _ _ (Act.put _ (some 21) _) _
          simp only [Act.put, List.setIfInBounds_toArray, List.set_cons_zero, List.set_cons_succ]
          refine wpAnyH_take (i := 1) (v := (.int .i64 (k : Int))) rfl (by kernel_rfl) (by kernel_rfl) (by kernel_rfl) (fun _ _ _ h => h) ?_ hS0 ?_
          · exact Or.inl ⟨by rfl, by rintro w' ⟨s0, s1, s2⟩; go_simp⟩
          show wpAnyH _ _ _ _ _ _ _ (Act.put _ (some 22) _) _
          simp only [Act.put, List.setIfInBounds_toArray, List.set_cons_zero, List.set_cons_succ]
          refine wpAnyH_take (i := 2) (v := (.pointer (some (al.add k)))) rfl (by kernel_rfl) (by kernel_rfl) (by kernel_rfl) (fun _ _ _ h => h) ?_ hS0 ?_
          · exact Or.inl ⟨by rfl, by rintro w' ⟨s0, s1, s2⟩; go_simp⟩
          show wpAnyH _ _ _ _ _ _ _ (Act.put _ (some 23) _) _
          simp only [Act.put, List.setIfInBounds_toArray, List.set_cons_zero, List.set_cons_succ]
          refine wpAnyH_take (i := 3) (v := (.int .i64 n)) rfl (by kernel_rfl) (by kernel_rfl) (by kernel_rfl) (fun _ _ _ h => h) ?_ hS0 ?_
          · exact Or.inl ⟨by rfl, by rintro w' ⟨s0, s1, s2⟩; go_simp⟩
          show wpAnyH _ _ _ _ _ _ _ (Act.put _ (some 24) _) _
          simp only [Act.put, List.setIfInBounds_toArray, List.set_cons_zero, List.set_cons_succ]
          refine wpAnyH_take (i := 4) (v := (.bool b1)) rfl (by kernel_rfl) (by kernel_rfl) (by kernel_rfl) (fun _ _ _ h => h) ?_ hS0 ?_
          · exact Or.inl ⟨by rfl, by rintro w' ⟨s0, s1, s2⟩; go_simp⟩
          show wpAnyH _ _ _ _ _ _ _ (Act.put _ (some 25) _) _
          simp only [Act.put, List.setIfInBounds_toArray, List.set_cons_zero, List.set_cons_succ]
          refine wpAnyH_take (i := 5) (v := (.bool b1)) rfl (by kernel_rfl) (by kernel_rfl) (by kernel_rfl) (fun _ _ _ h => h) ?_ hS0 ?_
          · exact Or.inl ⟨by rfl, by rintro w' ⟨s0, s1, s2⟩; go_simp⟩
          show wpAnyH _ _ _ _ _ _ _ (Act.put _ (some 26) _) _
          simp only [Act.put, List.setIfInBounds_toArray, List.set_cons_zero, List.set_cons_succ]
          refine wpAnyH_take (i := 6) (v := (if b1 = true then undef else (.slice (some al) l1.length c1))) rfl (by kernel_rfl) (by kernel_rfl) (by kernel_rfl) (fun _ _ _ h => h) ?_ hS0 ?_
          · cases b1 <;> first | exact Or.inr ⟨by rfl, by rfl⟩ | exact Or.inl ⟨by rfl, by rintro w' ⟨s0, s1, s2⟩; go_simp⟩
          show wpAnyH _ _ _ _ _ _ _ (Act.put _ (some 27) _) _
          simp only [Act.put, List.setIfInBounds_toArray, List.set_cons_zero, List.set_cons_succ]
          refine wpAnyH_take (i := 7) (v := (if b1 = true then undef else (.int .i64 (k : Int)))) rfl (by kernel_rfl) (by kernel_rfl) (by kernel_rfl) (fun _ _ _ h => h) ?_ hS0 ?_
          · cases b1 <;> first | exact Or.inr ⟨by rfl, by rfl⟩ | exact Or.inl ⟨by rfl, by rintro w' ⟨s0, s1, s2⟩; go_simp⟩
          show wpAnyH _ _ _ _ _ _ _ (Act.put _ (some 28) _) _
          simp only [Act.put, List.setIfInBounds_toArray, List.set_cons_zero, List.set_cons_succ]
          refine wpAnyH_take (i := 8) (v := (if b1 = true then undef else (.pointer (some (al.add k))))) rfl (by kernel_rfl) (by kernel_rfl) (by kernel_rfl) (fun _ _ _ h => h) ?_ hS0 ?_
          · cases b1 <;> first | exact Or.inr ⟨by rfl, by rfl⟩ | exact Or.inl ⟨by rfl, by rintro w' ⟨s0, s1, s2⟩; go_simp⟩
          show wpAnyH _ _ _ _ _ _ _ (Act.put _ (some 29) _) _
          simp only [Act.put, List.setIfInBounds_toArray, List.set_cons_zero, List.set_cons_succ]
          refine wpAnyH_take (i := 9) (v := (if b1 = true then undef else (.int .i64 n))) rfl (by kernel_rfl) (by kernel_rfl) (by kernel_rfl) (fun _ _ _ h => h) ?_ hS0 ?_
          · cases b1 <;> first | exact Or.inr ⟨by rfl, by rfl⟩ | exact Or.inl ⟨by rfl, by rintro w' ⟨s0, s1, s2⟩; go_simp⟩
          show wpAnyH _ _ _ _ _ _ _ (Act.put _ (some 30) _) _
          simp only [Act.put, List.setIfInBounds_toArray, List.set_cons_zero, List.set_cons_succ]
          refine wpAnyH_take (i := 10) (v := (if b1 = true then undef else (.bool b2))) rfl (by kernel_rfl) (by kernel_rfl) (by kernel_rfl) (fun _ _ _ h => h) ?_ hS0 ?_
          · cases b1 <;> first | exact Or.inr ⟨by rfl, by rfl⟩ | exact Or.inl ⟨by rfl, by rintro w' ⟨s0, s1, s2⟩; go_simp⟩
          show wpAnyH _ _ _ _ _ _ _ (Act.put _ (some 31) _) _
          simp only [Act.put, List.setIfInBounds_toArray, List.set_cons_zero, List.set_cons_succ]
          refine wpAnyH_take (i := 11) (v := (.bool d1)) rfl (by kernel_rfl) (by kernel_rfl) (by kernel_rfl) (fun _ _ _ h => h) ?_ hS0 ?_
          · cases b1 <;> cases b2 <;> first | exact Or.inr ⟨by rfl, by rfl⟩ | exact Or.inl ⟨by rfl, by rintro w' ⟨s0, s1, s2⟩; first | (go_simp; done) | (go_simp; exact hd1.symm)⟩
          show wpAnyH _ _ _ _ _ _ _ (Act.put _ (some 32) _) _
          simp only [Act.put, List.setIfInBounds_toArray, List.set_cons_zero, List.set_cons_succ]
          refine wpAnyH_take (i := 12) (v := (.bool d1)) rfl (by kernel_rfl) (by kernel_rfl) (by kernel_rfl) (fun _ _ _ h => h) ?_ hS0 ?_
          · exact Or.inl ⟨by rfl, by rintro w' ⟨s0, s1, s2⟩; go_simp⟩
          show wpAnyH _ _ _ _ _ _ _ (Act.put _ (some 33) _) _
          simp only [Act.put, List.setIfInBounds_toArray, List.set_cons_zero, List.set_cons_succ]
          refine wpAnyH_take (i := 13) (v := (if d1 = true then undef else (.slice (some al) l1.length c1))) rfl (by kernel_rfl) (by kernel_rfl) (by kernel_rfl) (fun _ _ _ h => h) ?_ hS0 ?_
          · cases d1 <;> first | exact Or.inr ⟨by rfl, by rfl⟩ | exact Or.inl ⟨by rfl, by rintro w' ⟨s0, s1, s2⟩; go_simp⟩
          show wpAnyH _ _ _ _ _ _ _ (Act.put _ (some 34) _) _
          simp only [Act.put, List.setIfInBounds_toArray, List.set_cons_zero, List.set_cons_succ]
          refine wpAnyH_take (i := 14) (v := (if d1 = true then undef else (.int .i64 (k : Int)))) rfl (by kernel_rfl) (by kernel_rfl) (by kernel_rfl) (fun _ _ _ h => h) ?_ hS0 ?_
          · cases d1 <;> first | exact Or.inr ⟨by rfl, by rfl⟩ | exact Or.inl ⟨by rfl, by rintro w' ⟨s0, s1, s2⟩; go_simp⟩
          show wpAnyH _ _ _ _ _ _ _ (Act.put _ (some 35) _) _
          simp only [Act.put, List.setIfInBounds_toArray, List.set_cons_zero, List.set_cons_succ]
          refine wpAnyH_take (i := 15) (v := (if d1 = true then undef else (.pointer (some (al.add k))))) rfl (by kernel_rfl) (by kernel_rfl) (by kernel_rfl) (fun _ _ _ h => h) ?_ hS0 ?_
          · cases d1 <;> first | exact Or.inr ⟨by rfl, by rfl⟩ | exact Or.inl ⟨by rfl, by rintro w' ⟨s0, s1, s2⟩; go_simp⟩
          show wpAnyH _ _ _ _ _ _ _ (Act.put _ (some 36) _) _
          simp only [Act.put, List.setIfInBounds_toArray, List.set_cons_zero, List.set_cons_succ]
          refine wpAnyH_take (i := 16) (v := (if d1 = true then undef else (.int .i64 n))) rfl (by kernel_rfl) (by kernel_rfl) (by kernel_rfl) (fun _ _ _ h => h) ?_ hS0 ?_
          · cases d1 <;> first | exact Or.inr ⟨by rfl, by rfl⟩ | exact Or.inl ⟨by rfl, by rintro w' ⟨s0, s1, s2⟩; go_simp⟩
          show wpAnyH _ _ _ _ _ _ _ (Act.put _ (some 37) _) _
          simp only [Act.put, List.setIfInBounds_toArray, List.set_cons_zero, List.set_cons_succ]
          refine wpAnyH_take (i := 17) (v := (if d1 = true then undef else (.int .i64 last))) rfl (by kernel_rfl) (by kernel_rfl) (by kernel_rfl) (fun _ _ _ h => h) ?_ hS0 ?_
          · cases d1 <;> first | exact Or.inr ⟨by rfl, by rfl⟩ | exact Or.inl ⟨by rfl, by rintro w' ⟨s0, s1, s2⟩; go_simp⟩
          show wpAnyH _ _ _ _ _ _ _ (Act.put _ (some 38) _) _
          simp only [Act.put, List.setIfInBounds_toArray, List.set_cons_zero, List.set_cons_succ]
          refine wpAnyH_take (i := 18) (v := (if d1 = true then undef else (.int .i64 q0))) rfl (by kernel_rfl) (by kernel_rfl) (by kernel_rfl) (fun _ _ _ h => h) ?_ hS0 ?_
          · cases d1 <;> first | exact Or.inr ⟨by rfl, by rfl⟩ | exact Or.inl ⟨by rfl, by rintro w' ⟨s0, s1, s2⟩; go_simp⟩
          show wpAnyH _ _ _ _ _ _ _ (Act.put _ (some 39) _) _
          simp only [Act.put, List.setIfInBounds_toArray, List.set_cons_zero, List.set_cons_succ]
          refine wpAnyH_take (i := 19) (v := (if d1 = true then undef else (.slice (some ad) l0.length c0))) rfl (by kernel_rfl) (by kernel_rfl) (by kernel_rfl) (fun _ _ _ h => h) ?_ hS0 ?_
          · cases d1 <;> first | exact Or.inr ⟨by rfl, by rfl⟩ | exact Or.inl ⟨by rfl, by rintro w' ⟨s0, s1, s2⟩; go_simp⟩
          show wpAnyH _ _ _ _ _ _ _ (Act.put _ (some 40) _) _
          simp only [Act.put, List.setIfInBounds_toArray, List.set_cons_zero, List.set_cons_succ]
          refine wpAnyH_take (i := 20) (v := (if d1 = true then undef else (.int .i64 (k : Int)))) rfl (by kernel_rfl) (by kernel_rfl) (by kernel_rfl) (fun _ _ _ h => h) ?_ hS0 ?_
          · cases d1 <;> first | exact Or.inr ⟨by rfl, by rfl⟩ | exact Or.inl ⟨by rfl, by rintro w' ⟨s0, s1, s2⟩; go_simp⟩
          show wpAnyH _ _ _ _ _ _ _ (Act.put _ (some 41) _) _
          simp only [Act.put, List.setIfInBounds_toArray, List.set_cons_zero, List.set_cons_succ]
          refine wpAnyH_take (i := 21) (v := (if d1 = true then undef else (.pointer (some (ad.add (k * 4)))))) rfl (by kernel_rfl) (by kernel_rfl) (by kernel_rfl) (fun _ _ _ h => h) ?_ hS0 ?_
          · cases d1 <;> first | exact Or.inr ⟨by rfl, by rfl⟩ | exact Or.inl ⟨by rfl, by rintro w' ⟨s0, s1, s2⟩; go_simp⟩
          show wpAnyH _ _ _ _ _ _ _ (Act.put _ (some 42) _) _
          simp only [Act.put, List.setIfInBounds_toArray, List.set_cons_zero, List.set_cons_succ]
          refine wpAnyH_take (i := 22) (v := (if d1 = true then undef else (.pointer (some (ad.add (k * 4)))))) rfl (by kernel_rfl) (by kernel_rfl) (by kernel_rfl) (fun _ _ _ h => h) ?_ hS0 ?_
          · cases d1 <;> first | exact Or.inr ⟨by rfl, by rfl⟩ | exact Or.inl ⟨by rfl, by rintro w' ⟨s0, s1, s2⟩; go_simp⟩
          show wpAnyH _ _ _ _ _ _ _ (Act.put _ (some 43) _) _
          simp only [Act.put, List.setIfInBounds_toArray, List.set_cons_zero, List.set_cons_succ]
          refine wpAnyH_take (i := 23) (v := (if d1 = true then undef else (.pointer (some (ad.add (k * 4)))))) rfl (by kernel_rfl) (by kernel_rfl) (by kernel_rfl) (fun _ _ _ h => h) ?_ hS0 ?_
          · cases d1 <;> first | exact Or.inr ⟨by rfl, by rfl⟩ | exact Or.inl ⟨by rfl, by rintro w' ⟨s0, s1, s2⟩; go_simp⟩
          show wpAnyH _ _ _ _ _ _ _ (Act.put _ (some 44) _) _
          simp only [Act.put, List.setIfInBounds_toArray, List.set_cons_zero, List.set_cons_succ]
          refine wpAnyH_take (i := 24) (v := (if d1 = true then undef else (.int .i64 e.f0.f0))) rfl (by kernel_rfl) (by kernel_rfl) (by kernel_rfl) (fun _ _ _ h => h) ?_ hS0 ?_
          · cases d1 <;> first | exact Or.inr ⟨by rfl, by rfl⟩ | exact Or.inl ⟨by rfl, by rintro w' ⟨s0, s1, s2⟩; go_simp⟩
          show wpAnyH _ _ _ _ _ _ _ (Act.put _ (some 45) _) _
          simp only [Act.put, List.setIfInBounds_toArray, List.set_cons_zero, List.set_cons_succ]
          refine wpAnyH_take (i := 25) (v := (if d1 = true then undef else (.bool b3))) rfl (by kernel_rfl) (by kernel_rfl) (by kernel_rfl) (fun _ _ _ h => h) ?_ hS0 ?_
          · cases d1 <;> first | exact Or.inr ⟨by rfl, by rfl⟩ | exact Or.inl ⟨by rfl, by rintro w' ⟨s0, s1, s2⟩; go_simp⟩
          show wpAnyH _ _ _ _ _ _ _ (Act.put _ (some 46) _) _
          simp only [Act.put, List.setIfInBounds_toArray, List.set_cons_zero, List.set_cons_succ]
          refine wpAnyH_take (i := 26) (v := (.bool d2)) rfl (by kernel_rfl) (by kernel_rfl) (by kernel_rfl) (fun _ _ _ h => h) ?_ hS0 ?_
          · cases d1 <;> cases b3 <;> first | exact Or.inr ⟨by rfl, by rfl⟩ | exact Or.inl ⟨by rfl, by rintro w' ⟨s0, s1, s2⟩; first | (go_simp; done) | (go_simp; exact hd2.symm)⟩
          show wpAnyH _ _ _ _ _ _ _ (Act.put _ (some 47) _) _
          simp only [Act.put, List.setIfInBounds_toArray, List.set_cons_zero, List.set_cons_succ]
          refine wpAnyH_take (i := 27) (v := (.bool d2)) rfl (by kernel_rfl) (by kernel_rfl) (by kernel_rfl) (fun _ _ _ h => h) ?_ hS0 ?_
          · exact Or.inl ⟨by rfl, by rintro w' ⟨s0, s1, s2⟩; go_simp⟩
          show wpAnyH _ _ _ _ _ _ _ (Act.put _ (some 48) _) _
          simp only [Act.put, List.setIfInBounds_toArray, List.set_cons_zero, List.set_cons_succ]
          refine wpAnyH_take (i := 28) (v := (if d2 = true then undef else (.slice (some al) l1.length c1))) rfl (by kernel_rfl) (by kernel_rfl) (by kernel_rfl) (fun _ _ _ h => h) ?_ hS0 ?_
          · cases d2 <;> first | exact Or.inr ⟨by rfl, by rfl⟩ | exact Or.inl ⟨by rfl, by rintro w' ⟨s0, s1, s2⟩; go_simp⟩
          show wpAnyH _ _ _ _ _ _ _ (Act.put _ (some 49) _) _
          simp only [Act.put, List.setIfInBounds_toArray, List.set_cons_zero, List.set_cons_succ]
          refine wpAnyH_take (i := 29) (v := (if d2 = true then undef else (.int .i64 (k : Int)))) rfl (by kernel_rfl) (by kernel_rfl) (by kernel_rfl) (fun _ _ _ h => h) ?_ hS0 ?_
          · cases d2 <;> first | exact Or.inr ⟨by rfl, by rfl⟩ | exact Or.inl ⟨by rfl, by rintro w' ⟨s0, s1, s2⟩; go_simp⟩
          show wpAnyH _ _ _ _ _ _ _ (Act.put _ (some 50) _) _
          simp only [Act.put, List.setIfInBounds_toArray, List.set_cons_zero, List.set_cons_succ]
          refine wpAnyH_take (i := 30) (v := (if d2 = true then undef else (.pointer (some (al.add k))))) rfl (by kernel_rfl) (by kernel_rfl) (by kernel_rfl) (fun _ _ _ h => h) ?_ hS0 ?_
          · cases d2 <;> first | exact Or.inr ⟨by rfl, by rfl⟩ | exact Or.inl ⟨by rfl, by rintro w' ⟨s0, s1, s2⟩; go_simp⟩
          show wpAnyH _ _ _ _ _ _ _ (Act.put _ (some 51) _) _
          simp only [Act.put, List.setIfInBounds_toArray, List.set_cons_zero, List.set_cons_succ]
          refine wpAnyH_take (i := 31) (v := (if d2 = true then undef else (.int .i64 n))) rfl (by kernel_rfl) (by kernel_rfl) (by kernel_rfl) (fun _ _ _ h => h) ?_ hS0 ?_
          · cases d2 <;> first | exact Or.inr ⟨by rfl, by rfl⟩ | exact Or.inl ⟨by rfl, by rintro w' ⟨s0, s1, s2⟩; go_simp⟩
          show wpAnyH _ _ _ _ _ _ _ (Act.put _ (some 52) _) _
          simp only [Act.put, List.setIfInBounds_toArray, List.set_cons_zero, List.set_cons_succ]
          refine wpAnyH_take (i := 32) (v := (if d2 = true then undef else (.int .i64 last))) rfl (by kernel_rfl) (by kernel_rfl) (by kernel_rfl) (fun _ _ _ h => h) ?_ hS0 ?_
          · cases d2 <;> first | exact Or.inr ⟨by rfl, by rfl⟩ | exact Or.inl ⟨by rfl, by rintro w' ⟨s0, s1, s2⟩; go_simp⟩
          show wpAnyH _ _ _ _ _ _ _ (Act.put _ (some 53) _) _
          simp only [Act.put, List.setIfInBounds_toArray, List.set_cons_zero, List.set_cons_succ]
          refine wpAnyH_take (i := 33) (v := (if d2 = true then undef else (.int .i64 q0))) rfl (by kernel_rfl) (by kernel_rfl) (by kernel_rfl) (fun _ _ _ h => h) ?_ hS0 ?_
          · cases d2 <;> first | exact Or.inr ⟨by rfl, by rfl⟩ | exact Or.inl ⟨by rfl, by rintro w' ⟨s0, s1, s2⟩; go_simp⟩
          show wpAnyH _ _ _ _ _ _ _ (Act.put _ (some 54) _) _
          simp only [Act.put, List.setIfInBounds_toArray, List.set_cons_zero, List.set_cons_succ]
          refine wpAnyH_take (i := 34) (v := (if d2 = true then undef else (.slice (some ad) l0.length c0))) rfl (by kernel_rfl) (by kernel_rfl) (by kernel_rfl) (fun _ _ _ h => h) ?_ hS0 ?_
          · cases d2 <;> first | exact Or.inr ⟨by rfl, by rfl⟩ | exact Or.inl ⟨by rfl, by rintro w' ⟨s0, s1, s2⟩; go_simp⟩
          show wpAnyH _ _ _ _ _ _ _ (Act.put _ (some 55) _) _
          simp only [Act.put, List.setIfInBounds_toArray, List.set_cons_zero, List.set_cons_succ]
          refine wpAnyH_take (i := 35) (v := (if d2 = true then undef else (.int .i64 (k : Int)))) rfl (by kernel_rfl) (by kernel_rfl) (by kernel_rfl) (fun _ _ _ h => h) ?_ hS0 ?_
          · cases d2 <;> first | exact Or.inr ⟨by rfl, by rfl⟩ | exact Or.inl ⟨by rfl, by rintro w' ⟨s0, s1, s2⟩; go_simp⟩
          show wpAnyH _ _ _ _ _ _ _ (Act.put _ (some 56) _) _
          simp only [Act.put, List.setIfInBounds_toArray, List.set_cons_zero, List.set_cons_succ]
          refine wpAnyH_take (i := 36) (v := (if d2 = true then undef else (.pointer (some (ad.add (k * 4)))))) rfl (by kernel_rfl) (by kernel_rfl) (by kernel_rfl) (fun _ _ _ h => h) ?_ hS0 ?_
          · cases d2 <;> first | exact Or.inr ⟨by rfl, by rfl⟩ | exact Or.inl ⟨by rfl, by rintro w' ⟨s0, s1, s2⟩; go_simp⟩
          show wpAnyH _ _ _ _ _ _ _ (Act.put _ (some 57) _) _
          simp only [Act.put, List.setIfInBounds_toArray, List.set_cons_zero, List.set_cons_succ]
          refine wpAnyH_take (i := 37) (v := (if d2 = true then undef else (.pointer (some (ad.add (k * 4)))))) rfl (by kernel_rfl) (by kernel_rfl) (by kernel_rfl) (fun _ _ _ h => h) ?_ hS0 ?_
          · cases d2 <;> first | exact Or.inr ⟨by rfl, by rfl⟩ | exact Or.inl ⟨by rfl, by rintro w' ⟨s0, s1, s2⟩; go_simp⟩
          show wpAnyH _ _ _ _ _ _ _ (Act.put _ (some 58) _) _
          simp only [Act.put, List.setIfInBounds_toArray, List.set_cons_zero, List.set_cons_succ]
          refine wpAnyH_take (i := 38) (v := (if d2 = true then undef else (.pointer (some ⟨(ad.add (k * 4)).block, (ad.add (k * 4)).off + 1, none⟩)))) rfl (by kernel_rfl) (by kernel_rfl) (by kernel_rfl) (fun _ _ _ h => h) ?_ hS0 ?_
          · cases d2 <;> first | exact Or.inr ⟨by rfl, by rfl⟩ | exact Or.inl ⟨by rfl, by rintro w' ⟨s0, s1, s2⟩; go_simp⟩
          show wpAnyH _ _ _ _ _ _ _ (Act.put _ (some 59) _) _
          simp only [Act.put, List.setIfInBounds_toArray, List.set_cons_zero, List.set_cons_succ]
          refine wpAnyH_take (i := 39) (v := (if d2 = true then undef else (.int .i64 e.f0.f1))) rfl (by kernel_rfl) (by kernel_rfl) (by kernel_rfl) (fun _ _ _ h => h) ?_ hS0 ?_
          · cases d2 <;> first | exact Or.inr ⟨by rfl, by rfl⟩ | exact Or.inl ⟨by rfl, by rintro w' ⟨s0, s1, s2⟩; go_simp⟩
          show wpAnyH _ _ _ _ _ _ _ (Act.put _ (some 60) _) _
          simp only [Act.put, List.setIfInBounds_toArray, List.set_cons_zero, List.set_cons_succ]
          refine wpAnyH_take (i := 40) (v := (if d2 = true then undef else (.bool b4))) rfl (by kernel_rfl) (by kernel_rfl) (by kernel_rfl) (fun _ _ _ h => h) ?_ hS0 ?_
          · cases d2 <;> first | exact Or.inr ⟨by rfl, by rfl⟩ | exact Or.inl ⟨by rfl, by rintro w' ⟨s0, s1, s2⟩; go_simp⟩
          show wpAnyH _ _ _ _ _ _ _ (Act.put _ (some 61) _) _
          simp only [Act.put, List.setIfInBounds_toArray, List.set_cons_zero, List.set_cons_succ]
          refine wpAnyH_take (i := 41) (v := (.bool d3)) rfl (by kernel_rfl) (by kernel_rfl) (by kernel_rfl) (fun _ _ _ h => h) ?_ hS0 ?_
          · cases d2 <;> cases b4 <;> first | exact Or.inr ⟨by rfl, by rfl⟩ | exact Or.inl ⟨by rfl, by rintro w' ⟨s0, s1, s2⟩; first | (go_simp; done) | (go_simp; exact hd3.symm)⟩
          show wpAnyH _ _ _ _ _ _ _ (Act.put _ (some 62) _) _
          simp only [Act.put, List.setIfInBounds_toArray, List.set_cons_zero, List.set_cons_succ]
          refine wpAnyH_done (by kernel_rfl) ?_ _
          clear hS0
          generalize (if b1 = true then undef else (Value.slice (some al) l1.length c1) : Value) = z0
          generalize (if b1 = true then undef else (Value.int .i64 (k : Int)) : Value) = z1
          generalize (if b1 = true then undef else (Value.pointer (some (al.add k))) : Value) = z2
          generalize (if b1 = true then undef else (Value.int .i64 n) : Value) = z3
          generalize (if b1 = true then undef else (Value.bool b2) : Value) = z4
          generalize (if d1 = true then undef else (Value.slice (some al) l1.length c1) : Value) = z5
          generalize (if d1 = true then undef else (Value.int .i64 (k : Int)) : Value) = z6
          generalize (if d1 = true then undef else (Value.pointer (some (al.add k))) : Value) = z7
          generalize (if d1 = true then undef else (Value.int .i64 n) : Value) = z8
          generalize (if d1 = true then undef else (Value.int .i64 last) : Value) = z9
          generalize (if d1 = true then undef else (Value.int .i64 q0) : Value) = z10
          generalize (if d1 = true then undef else (Value.slice (some ad) l0.length c0) : Value) = z11
          generalize (if d1 = true then undef else (Value.pointer (some (ad.add (k * 4)))) : Value) = z12
          generalize (if d1 = true then undef else (Value.int .i64 e.f0.f0) : Value) = z13
          generalize (if d1 = true then undef else (Value.bool b3) : Value) = z14
          generalize (if d2 = true then undef else (Value.slice (some al) l1.length c1) : Value) = z15
          generalize (if d2 = true then undef else (Value.int .i64 (k : Int)) : Value) = z16
          generalize (if d2 = true then undef else (Value.pointer (some (al.add k))) : Value) = z17
          generalize (if d2 = true then undef else (Value.int .i64 n) : Value) = z18
          generalize (if d2 = true then undef else (Value.int .i64 last) : Value) = z19
          generalize (if d2 = true then undef else (Value.int .i64 q0) : Value) = z20
          generalize (if d2 = true then undef else (Value.slice (some ad) l0.length c0) : Value) = z21
          generalize (if d2 = true then undef else (Value.pointer (some (ad.add (k * 4)))) : Value) = z22
          generalize (if d2 = true then undef else (Value.pointer (some ⟨(ad.add (k * 4)).block, (ad.add (k * 4)).off + 1, none⟩)) : Value) = z23
          generalize (if d2 = true then undef else (Value.int .i64 e.f0.f1) : Value) = z24
          generalize (if d2 = true then undef else (Value.bool b4) : Value) = z25
          cases d3
          · go_wp2
            have hS0 : (fun w' : World => w'.cell? (al.add k) = some (.int .i64 n) ∧ w'.cell? ⟨(ad.add (k * 4)).block, (ad.add (k * 4)).off + 2, none⟩ = some (.int .i64 e.f1.f0) ∧ w'.cell? ⟨(ad.add (k * 4)).block, (ad.add (k * 4)).off + 3, none⟩ = some (.int .i64 e.f1.f1)) wr.drew.drew := HS2.out
            refine wp_region_held (S := fun w' : World => w'.cell? (al.add k) = some (.int .i64 n) ∧ w'.cell? ⟨(ad.add (k * 4)).block, (ad.add (k * 4)).off + 2, none⟩ = some (.int .i64 e.f1.f0) ∧ w'.cell? ⟨(ad.add (k * 4)).block, (ad.add (k * 4)).off + 3, none⟩ = some (.int .i64 e.f1.f1)) (by kernel_rfl) ?_
            show wpAnyH _ _ _ _ _ _ _ _ wr.drew.drew
            have HB0 : Below w.heap.size w wr.drew.drew := below_drew (below_drew HB.out)
            have HBB := Aside0.mk HB0
            clear HB0 HS2
            generalize wr.drew.drew = wc at HBB hS0 ⊢
            refine wpAnyH_take (i := 0) (v := (.slice (some ad) l0.length c0)) rfl (by kernel_rfl) (by kernel_rfl) (by kernel_rfl) (fun _ _ _ h => h) ?_ hS0 ?_
            · exact Or.inl ⟨by rfl, by rintro w' ⟨s0, s1, s2⟩; go_simp⟩
            show wpAnyH _ _ _ _ _ _ _ (Act.put _ (some 63) _) _
            simp only [Act.put, List.setIfInBounds_toArray, List.set_cons_zero, List.set_cons_succ]
            refine wpAnyH_take (i := 1) (v := (.int .i64 (k : Int))) rfl (by kernel_rfl) (by kernel_rfl) (by kernel_rfl) (fun _ _ _ h => h) ?_ hS0 ?_
            · exact Or.inl ⟨by rfl, by rintro w' ⟨s0, s1, s2⟩; go_simp⟩
            show wpAnyH _ _ _ _ _ _ _ (Act.put _ (some 64) _) _
            simp only [Act.put, List.setIfInBounds_toArray, List.set_cons_zero, List.set_cons_succ]
            refine wpAnyH_take (i := 2) (v := (.pointer (some (ad.add (k * 4))))) rfl (by kernel_rfl) (by kernel_rfl) (by kernel_rfl) (fun _ _ _ h => h) ?_ hS0 ?_
            · exact Or.inl ⟨by rfl, by rintro w' ⟨s0, s1, s2⟩; go_simp⟩
            show wpAnyH _ _ _ _ _ _ _ (Act.put _ (some 65) _) _
            simp only [Act.put, List.setIfInBounds_toArray, List.set_cons_zero, List.set_cons_succ]
            refine wpAnyH_take (i := 3) (v := (.pointer (some ⟨(ad.add (k * 4)).block, (ad.add (k * 4)).off + 2, none⟩))) rfl (by kernel_rfl) (by kernel_rfl) (by kernel_rfl) (fun _ _ _ h => h) ?_ hS0 ?_
            · exact Or.inl ⟨by rfl, by rintro w' ⟨s0, s1, s2⟩; go_simp⟩
            show wpAnyH _ _ _ _ _ _ _ (Act.put _ (some 66) _) _
            simp only [Act.put, List.setIfInBounds_toArray, List.set_cons_zero, List.set_cons_succ]
            refine wpAnyH_take (i := 4) (v := (.agg #[.int .i64 e.f1.f0, .int .i64 e.f1.f1])) rfl (by kernel_rfl) (by kernel_rfl) (by kernel_rfl) (fun _ _ _ h => h) ?_ hS0 ?_
            · exact Or.inl ⟨by rfl, by rintro w' ⟨s0, s1, s2⟩; go_simp⟩
            show wpAnyH _ _ _ _ _ _ _ (Act.put _ (some 67) _) _
            simp only [Act.put, List.setIfInBounds_toArray, List.set_cons_zero, List.set_cons_succ]
            refine wpAnyH_ready (rs := [5]) (by kernel_rfl) (by simp) ?_
            refine AllReadyH.cons rfl (fun K hK => ?_) AllReadyH.nil
            have HS0 := Aside0.mk hS0
            clear hS0
            go_simp
            refine (waterhourref04_Known.calls _ _ kn _ (by unfold waterhourref04_Known.f; rw [HKN.out])).mono ?_
            rintro en w7 ⟨rfl, hb7'⟩
            have HB7 := Aside0.mk (HBB.out.trans (hb7'.mono HBB.out.size))
            obtain ⟨s0, s1, s2⟩ := HS0.out
            refine hK.out _ _ ⟨(hb7'.cell (World.block_lt_of_cell? _ _ s0)).trans s0, (hb7'.cell (World.block_lt_of_cell? _ _ s1)).trans s1, (hb7'.cell (World.block_lt_of_cell? _ _ s2)).trans s2⟩ (fun hS1 => ?_)
            have HB8 := Aside0.mk (Kd.C_below HR1.out HB7.out)
            have hn8 := hS1.1
            clear hK K HS0 hb7' s0 s1 s2
            refine wpAnyH_take (i := 6) (v := (.bool kn)) rfl (by kernel_rfl) (by kernel_rfl) (by kernel_rfl) (fun _ _ _ h => h) ?_ hS1 ?_
            · exact Or.inl ⟨by rfl, by rintro w' ⟨s0, s1, s2⟩; go_simp⟩
            show wpAnyH _ _ _ _ _ _ _ (Act.put _ (some 69) _) _
            simp only [Act.put, List.setIfInBounds_toArray, List.set_cons_zero, List.set_cons_succ]
            refine wpAnyH_take (i := 7) (v := (if kn = true then (.slice (some al) l1.length c1) else undef)) rfl (by kernel_rfl) (by kernel_rfl) (by kernel_rfl) (fun _ _ _ h => h) ?_ hS1 ?_
            · cases kn <;> first | exact Or.inr ⟨by rfl, by rfl⟩ | exact Or.inl ⟨by rfl, by rintro w' ⟨s0, s1, s2⟩; go_simp⟩
            show wpAnyH _ _ _ _ _ _ _ (Act.put _ (some 70) _) _
            simp only [Act.put, List.setIfInBounds_toArray, List.set_cons_zero, List.set_cons_succ]
            refine wpAnyH_take (i := 8) (v := (if kn = true then (.int .i64 (k : Int)) else undef)) rfl (by kernel_rfl) (by kernel_rfl) (by kernel_rfl) (fun _ _ _ h => h) ?_ hS1 ?_
            · cases kn <;> first | exact Or.inr ⟨by rfl, by rfl⟩ | exact Or.inl ⟨by rfl, by rintro w' ⟨s0, s1, s2⟩; go_simp⟩
            show wpAnyH _ _ _ _ _ _ _ (Act.put _ (some 71) _) _
            simp only [Act.put, List.setIfInBounds_toArray, List.set_cons_zero, List.set_cons_succ]
            refine wpAnyH_take (i := 9) (v := (if kn = true then (.pointer (some (al.add k))) else undef)) rfl (by kernel_rfl) (by kernel_rfl) (by kernel_rfl) (fun _ _ _ h => h) ?_ hS1 ?_
            · cases kn <;> first | exact Or.inr ⟨by rfl, by rfl⟩ | exact Or.inl ⟨by rfl, by rintro w' ⟨s0, s1, s2⟩; go_simp⟩
            show wpAnyH _ _ _ _ _ _ _ (Act.put _ (some 72) _) _
            simp only [Act.put, List.setIfInBounds_toArray, List.set_cons_zero, List.set_cons_succ]
            refine wpAnyH_take (i := 10) (v := (if kn = true then (.int .i64 n) else undef)) rfl (by kernel_rfl) (by kernel_rfl) (by kernel_rfl) (fun _ _ _ h => h) ?_ hS1 ?_
            · cases kn <;> first | exact Or.inr ⟨by rfl, by rfl⟩ | exact Or.inl ⟨by rfl, by rintro w' ⟨s0, s1, s2⟩; go_simp⟩
            show wpAnyH _ _ _ _ _ _ _ (Act.put _ (some 73) _) _
            simp only [Act.put, List.setIfInBounds_toArray, List.set_cons_zero, List.set_cons_succ]
            refine wpAnyH_take (i := 11) (v := (if kn = true then (.slice (some ad) l0.length c0) else undef)) rfl (by kernel_rfl) (by kernel_rfl) (by kernel_rfl) (fun _ _ _ h => h) ?_ hS1 ?_
            · cases kn <;> first | exact Or.inr ⟨by rfl, by rfl⟩ | exact Or.inl ⟨by rfl, by rintro w' ⟨s0, s1, s2⟩; go_simp⟩
            show wpAnyH _ _ _ _ _ _ _ (Act.put _ (some 74) _) _
            simp only [Act.put, List.setIfInBounds_toArray, List.set_cons_zero, List.set_cons_succ]
            refine wpAnyH_take (i := 12) (v := (if kn = true then (.int .i64 (k : Int)) else undef)) rfl (by kernel_rfl) (by kernel_rfl) (by kernel_rfl) (fun _ _ _ h => h) ?_ hS1 ?_
            · cases kn <;> first | exact Or.inr ⟨by rfl, by rfl⟩ | exact Or.inl ⟨by rfl, by rintro w' ⟨s0, s1, s2⟩; go_simp⟩
            show wpAnyH _ _ _ _ _ _ _ (Act.put _ (some 75) _) _
            simp only [Act.put, List.setIfInBounds_toArray, List.set_cons_zero, List.set_cons_succ]
            refine wpAnyH_take (i := 13) (v := (if kn = true then (.pointer (some (ad.add (k * 4)))) else undef)) rfl (by kernel_rfl) (by kernel_rfl) (by kernel_rfl) (fun _ _ _ h => h) ?_ hS1 ?_
            · cases kn <;> first | exact Or.inr ⟨by rfl, by rfl⟩ | exact Or.inl ⟨by rfl, by rintro w' ⟨s0, s1, s2⟩; go_simp⟩
            show wpAnyH _ _ _ _ _ _ _ (Act.put _ (some 76) _) _
            simp only [Act.put, List.setIfInBounds_toArray, List.set_cons_zero, List.set_cons_succ]
            refine wpAnyH_take (i := 14) (v := (if kn = true then (.pointer (some ⟨(ad.add (k * 4)).block, (ad.add (k * 4)).off + 2, none⟩)) else undef)) rfl (by kernel_rfl) (by kernel_rfl) (by kernel_rfl) (fun _ _ _ h => h) ?_ hS1 ?_
            · cases kn <;> first | exact Or.inr ⟨by rfl, by rfl⟩ | exact Or.inl ⟨by rfl, by rintro w' ⟨s0, s1, s2⟩; go_simp⟩
            show wpAnyH _ _ _ _ _ _ _ (Act.put _ (some 77) _) _
            simp only [Act.put, List.setIfInBounds_toArray, List.set_cons_zero, List.set_cons_succ]
            refine wpAnyH_take (i := 15) (v := (if kn = true then (.pointer (some ⟨(ad.add (k * 4)).block, (ad.add (k * 4)).off + 2, none⟩)) else undef)) rfl (by kernel_rfl) (by kernel_rfl) (by kernel_rfl) (fun _ _ _ h => h) ?_ hS1 ?_
            · cases kn <;> first | exact Or.inr ⟨by rfl, by rfl⟩ | exact Or.inl ⟨by rfl, by rintro w' ⟨s0, s1, s2⟩; go_simp⟩
            show wpAnyH _ _ _ _ _ _ _ (Act.put _ (some 78) _) _
            simp only [Act.put, List.setIfInBounds_toArray, List.set_cons_zero, List.set_cons_succ]
            refine wpAnyH_take (i := 16) (v := (if kn = true then (.int .i64 e.f1.f0) else undef)) rfl (by kernel_rfl) (by kernel_rfl) (by kernel_rfl) (fun _ _ _ h => h) ?_ hS1 ?_
            · cases kn <;> first | exact Or.inr ⟨by rfl, by rfl⟩ | exact Or.inl ⟨by rfl, by rintro w' ⟨s0, s1, s2⟩; go_simp⟩
            show wpAnyH _ _ _ _ _ _ _ (Act.put _ (some 79) _) _
            simp only [Act.put, List.setIfInBounds_toArray, List.set_cons_zero, List.set_cons_succ]
            refine wpAnyH_take (i := 17) (v := (if kn = true then (.bool b6) else undef)) rfl (by kernel_rfl) (by kernel_rfl) (by kernel_rfl) (fun _ _ _ h => h) ?_ hS1 ?_
            · cases kn <;> first | exact Or.inr ⟨by rfl, by rfl⟩ | exact Or.inl ⟨by rfl, by rintro w' ⟨s0, s1, s2⟩; go_simp⟩
            show wpAnyH _ _ _ _ _ _ _ (Act.put _ (some 80) _) _
            simp only [Act.put, List.setIfInBounds_toArray, List.set_cons_zero, List.set_cons_succ]
            refine wpAnyH_take (i := 18) (v := (if kn = true then (.bool b6) else undef)) rfl (by kernel_rfl) (by kernel_rfl) (by kernel_rfl) (fun _ _ _ h => h) ?_ hS1 ?_
            · cases kn <;> first | exact Or.inr ⟨by rfl, by rfl⟩ | exact Or.inl ⟨by rfl, by rintro w' ⟨s0, s1, s2⟩; go_simp⟩
            show wpAnyH _ _ _ _ _ _ _ (Act.put _ (some 81) _) _
            simp only [Act.put, List.setIfInBounds_toArray, List.set_cons_zero, List.set_cons_succ]
            refine wpAnyH_take (i := 19) (v := (if kn = true then (if b6 = true then undef else (.slice (some al) l1.length c1)) else undef)) rfl (by kernel_rfl) (by kernel_rfl) (by kernel_rfl) (fun _ _ _ h => h) ?_ hS1 ?_
            · cases kn <;> cases b6 <;> first | exact Or.inr ⟨by rfl, by rfl⟩ | exact Or.inl ⟨by rfl, by rintro w' ⟨s0, s1, s2⟩; go_simp⟩
            show wpAnyH _ _ _ _ _ _ _ (Act.put _ (some 82) _) _
            simp only [Act.put, List.setIfInBounds_toArray, List.set_cons_zero, List.set_cons_succ]
            refine wpAnyH_take (i := 20) (v := (if kn = true then (if b6 = true then undef else (.int .i64 (k : Int))) else undef)) rfl (by kernel_rfl) (by kernel_rfl) (by kernel_rfl) (fun _ _ _ h => h) ?_ hS1 ?_
            · cases kn <;> cases b6 <;> first | exact Or.inr ⟨by rfl, by rfl⟩ | exact Or.inl ⟨by rfl, by rintro w' ⟨s0, s1, s2⟩; go_simp⟩
            show wpAnyH _ _ _ _ _ _ _ (Act.put _ (some 83) _) _
            simp only [Act.put, List.setIfInBounds_toArray, List.set_cons_zero, List.set_cons_succ]
            refine wpAnyH_take (i := 21) (v := (if kn = true then (if b6 = true then undef else (.pointer (some (al.add k)))) else undef)) rfl (by kernel_rfl) (by kernel_rfl) (by kernel_rfl) (fun _ _ _ h => h) ?_ hS1 ?_
            · cases kn <;> cases b6 <;> first | exact Or.inr ⟨by rfl, by rfl⟩ | exact Or.inl ⟨by rfl, by rintro w' ⟨s0, s1, s2⟩; go_simp⟩
            show wpAnyH _ _ _ _ _ _ _ (Act.put _ (some 84) _) _
            simp only [Act.put, List.setIfInBounds_toArray, List.set_cons_zero, List.set_cons_succ]
            refine wpAnyH_take (i := 22) (v := (if kn = true then (if b6 = true then undef else (.int .i64 n)) else undef)) rfl (by kernel_rfl) (by kernel_rfl) (by kernel_rfl) (fun _ _ _ h => h) ?_ hS1 ?_
            · cases kn <;> cases b6 <;> first | exact Or.inr ⟨by rfl, by rfl⟩ | exact Or.inl ⟨by rfl, by rintro w' ⟨s0, s1, s2⟩; go_simp⟩
            show wpAnyH _ _ _ _ _ _ _ (Act.put _ (some 85) _) _
            simp only [Act.put, List.setIfInBounds_toArray, List.set_cons_zero, List.set_cons_succ]
            refine wpAnyH_take (i := 23) (v := (if kn = true then (if b6 = true then undef else (.slice (some ad) l0.length c0)) else undef)) rfl (by kernel_rfl) (by kernel_rfl) (by kernel_rfl) (fun _ _ _ h => h) ?_ hS1 ?_
            · cases kn <;> cases b6 <;> first | exact Or.inr ⟨by rfl, by rfl⟩ | exact Or.inl ⟨by rfl, by rintro w' ⟨s0, s1, s2⟩; go_simp⟩
            show wpAnyH _ _ _ _ _ _ _ (Act.put _ (some 86) _) _
            simp only [Act.put, List.setIfInBounds_toArray, List.set_cons_zero, List.set_cons_succ]
            refine wpAnyH_take (i := 24) (v := (if kn = true then (if b6 = true then undef else (.int .i64 (k : Int))) else undef)) rfl (by kernel_rfl) (by kernel_rfl) (by kernel_rfl) (fun _ _ _ h => h) ?_ hS1 ?_
            · cases kn <;> cases b6 <;> first | exact Or.inr ⟨by rfl, by rfl⟩ | exact Or.inl ⟨by rfl, by rintro w' ⟨s0, s1, s2⟩; go_simp⟩
            show wpAnyH _ _ _ _ _ _ _ (Act.put _ (some 87) _) _
            simp only [Act.put, List.setIfInBounds_toArray, List.set_cons_zero, List.set_cons_succ]
            refine wpAnyH_take (i := 25) (v := (if kn = true then (if b6 = true then undef else (.pointer (some (ad.add (k * 4))))) else undef)) rfl (by kernel_rfl) (by kernel_rfl) (by kernel_rfl) (fun _ _ _ h => h) ?_ hS1 ?_
            · cases kn <;> cases b6 <;> first | exact Or.inr ⟨by rfl, by rfl⟩ | exact Or.inl ⟨by rfl, by rintro w' ⟨s0, s1, s2⟩; go_simp⟩
            show wpAnyH _ _ _ _ _ _ _ (Act.put _ (some 88) _) _
            simp only [Act.put, List.setIfInBounds_toArray, List.set_cons_zero, List.set_cons_succ]
            refine wpAnyH_take (i := 26) (v := (if kn = true then (if b6 = true then undef else (.pointer (some ⟨(ad.add (k * 4)).block, (ad.add (k * 4)).off + 2, none⟩))) else undef)) rfl (by kernel_rfl) (by kernel_rfl) (by kernel_rfl) (fun _ _ _ h => h) ?_ hS1 ?_
            · cases kn <;> cases b6 <;> first | exact Or.inr ⟨by rfl, by rfl⟩ | exact Or.inl ⟨by rfl, by rintro w' ⟨s0, s1, s2⟩; go_simp⟩
            show wpAnyH _ _ _ _ _ _ _ (Act.put _ (some 89) _) _
            simp only [Act.put, List.setIfInBounds_toArray, List.set_cons_zero, List.set_cons_succ]
            refine wpAnyH_take (i := 27) (v := (if kn = true then (if b6 = true then undef else (.pointer (some ⟨(ad.add (k * 4)).block, (ad.add (k * 4)).off + 3, none⟩))) else undef)) rfl (by kernel_rfl) (by kernel_rfl) (by kernel_rfl) (fun _ _ _ h => h) ?_ hS1 ?_
            · cases kn <;> cases b6 <;> first | exact Or.inr ⟨by rfl, by rfl⟩ | exact Or.inl ⟨by rfl, by rintro w' ⟨s0, s1, s2⟩; go_simp⟩
            show wpAnyH _ _ _ _ _ _ _ (Act.put _ (some 90) _) _
            simp only [Act.put, List.setIfInBounds_toArray, List.set_cons_zero, List.set_cons_succ]
            refine wpAnyH_take (i := 28) (v := (if kn = true then (if b6 = true then undef else (.int .i64 e.f1.f1)) else undef)) rfl (by kernel_rfl) (by kernel_rfl) (by kernel_rfl) (fun _ _ _ h => h) ?_ hS1 ?_
            · cases kn <;> cases b6 <;> first | exact Or.inr ⟨by rfl, by rfl⟩ | exact Or.inl ⟨by rfl, by rintro w' ⟨s0, s1, s2⟩; go_simp⟩
            show wpAnyH _ _ _ _ _ _ _ (Act.put _ (some 91) _) _
            simp only [Act.put, List.setIfInBounds_toArray, List.set_cons_zero, List.set_cons_succ]
            refine wpAnyH_take (i := 29) (v := (if kn = true then (if b6 = true then undef else (.bool b7)) else undef)) rfl (by kernel_rfl) (by kernel_rfl) (by kernel_rfl) (fun _ _ _ h => h) ?_ hS1 ?_
            · cases kn <;> cases b6 <;> first | exact Or.inr ⟨by rfl, by rfl⟩ | exact Or.inl ⟨by rfl, by rintro w' ⟨s0, s1, s2⟩; go_simp⟩
            show wpAnyH _ _ _ _ _ _ _ (Act.put _ (some 92) _) _
            simp only [Act.put, List.setIfInBounds_toArray, List.set_cons_zero, List.set_cons_succ]
            refine wpAnyH_take (i := 30) (v := (if kn = true then (.bool (b6 || b7)) else undef)) rfl (by kernel_rfl) (by kernel_rfl) (by kernel_rfl) (fun _ _ _ h => h) ?_ hS1 ?_
            · cases kn <;> cases b6 <;> cases b7 <;> first | exact Or.inr ⟨by rfl, by rfl⟩ | exact Or.inl ⟨by rfl, by rintro w' ⟨s0, s1, s2⟩; go_simp⟩
            show wpAnyH _ _ _ _ _ _ _ (Act.put _ (some 93) _) _
            simp only [Act.put, List.setIfInBounds_toArray, List.set_cons_zero, List.set_cons_succ]
            refine wpAnyH_take (i := 31) (v := (.bool bad)) rfl (by kernel_rfl) (by kernel_rfl) (by kernel_rfl) (fun _ _ _ h => h) ?_ hS1 ?_
            · cases kn <;> cases b6 <;> cases b7 <;> first | exact Or.inr ⟨by rfl, by rfl⟩ | exact Or.inl ⟨by rfl, by rintro w' ⟨s0, s1, s2⟩; first | (go_simp; done) | (go_simp; exact hbad.symm)⟩
            show wpAnyH _ _ _ _ _ _ _ (Act.put _ (some 94) _) _
            simp only [Act.put, List.setIfInBounds_toArray, List.set_cons_zero, List.set_cons_succ]
            refine wpAnyH_done (by kernel_rfl) ?_ _
            clear hS1
            generalize (if kn = true then (Value.slice (some al) l1.length c1) else undef : Value) = z0
            generalize (if kn = true then (Value.int .i64 (k : Int)) else undef : Value) = z1
            generalize (if kn = true then (Value.pointer (some (al.add k))) else undef : Value) = z2
            generalize (if kn = true then (Value.int .i64 n) else undef : Value) = z3
            generalize (if kn = true then (Value.slice (some ad) l0.length c0) else undef : Value) = z4
            generalize (if kn = true then (Value.pointer (some (ad.add (k * 4)))) else undef : Value) = z5
            generalize (if kn = true then (Value.pointer (some ⟨(ad.add (k * 4)).block, (ad.add (k * 4)).off + 2, none⟩)) else undef : Value) = z6
            generalize (if kn = true then (Value.int .i64 e.f1.f0) else undef : Value) = z7
            generalize (if kn = true then (Value.bool b6) else undef : Value) = z8
            generalize (if kn = true then (if b6 = true then undef else (Value.slice (some al) l1.length c1)) else undef : Value) = z9
            generalize (if kn = true then (if b6 = true then undef else (Value.int .i64 (k : Int))) else undef : Value) = z10
            generalize (if kn = true then (if b6 = true then undef else (Value.pointer (some (al.add k)))) else undef : Value) = z11
            generalize (if kn = true then (if b6 = true then undef else (Value.int .i64 n)) else undef : Value) = z12
            generalize (if kn = true then (if b6 = true then undef else (Value.slice (some ad) l0.length c0)) else undef : Value) = z13
            generalize (if kn = true then (if b6 = true then undef else (Value.pointer (some (ad.add (k * 4))))) else undef : Value) = z14
            generalize (if kn = true then (if b6 = true then undef else (Value.pointer (some ⟨(ad.add (k * 4)).block, (ad.add (k * 4)).off + 2, none⟩))) else undef : Value) = z15
            generalize (if kn = true then (if b6 = true then undef else (Value.pointer (some ⟨(ad.add (k * 4)).block, (ad.add (k * 4)).off + 3, none⟩))) else undef : Value) = z16
            generalize (if kn = true then (if b6 = true then undef else (Value.int .i64 e.f1.f1)) else undef : Value) = z17
            generalize (if kn = true then (if b6 = true then undef else (Value.bool b7)) else undef : Value) = z18
            generalize (if kn = true then (Value.bool (b6 || b7)) else undef : Value) = z19
            cases bad
            · clear hbad
              go_wp2
              go_roundw
              case rel => exact ⟨k + 1, by omega, by simp, by rw [prev_succ, HN.out], ⟨fun j hj => by
                rcases Nat.lt_or_ge j k with h | h
                · exact HO.out j h
                · obtain rfl : j = k := by omega
                  exact HBO.out⟩, HB7⟩
              case measure => simp [intOf]; omega
            · clear hbad
              go_wp2
              go_ret
              exact ⟨by rw [HCE.out, allOk_false hlt HBO.out]; rfl, HB7.out⟩
          · go_wp2
            go_ret
            exact ⟨by rw [HCE.out, allOk_false hlt (by rw [HBO.out, Bool.true_or]; rfl)]; rfl, below_drew HB.out⟩
        · obtain rfl : k = l0.length := by omega
          go_wp2
          go_ret
          exact ⟨by rw [HCE.out, if_pos (allOk_iff.2 HO.out)]; rfl, HB.out⟩
    · have hce : checkOf l0 l1 = 1 := by unfold checkOf; rw [if_pos hv, if_neg hln]
      have HCE := Aside0.mk hce
      have hln' : ((l1.length : Int) != (l0.length : Int)) = true := bne_iff_ne.mpr (by omega)
      clear hck hv hce hln
      go_enter Tryd.func49, Tryd.ntmps49
      go_wp2_with fail
      refine (waterhourref04_Valid.calls 40 _ _ l0 _ _ HR0.out HC0.out HCK.out).mono ?_
      rintro en w4 ⟨rfl, hb⟩
      go_wp2
      go_ret
      exact ⟨by rw [HCE.out]; rfl, hb⟩
  · rw [Bool.eq_false_iff.2 hv] at hck
    have hce : checkOf l0 l1 = 40 := by unfold checkOf; rw [if_neg hv]
    have HCE := Aside0.mk hce
    have HCK := Aside0.mk hck
    clear hck hv hce
    go_enter Tryd.func49, Tryd.ntmps49
    go_wp2_with fail
    refine (waterhourref04_Valid.calls 40 _ _ l0 _ _ HR0.out HC0.out HCK.out).mono ?_
    rintro en w4 ⟨rfl, hb⟩
    go_wp2
    go_ret
    exact ⟨by rw [HCE.out]; rfl, hb⟩
end Go.Proofs.YtgiihjcpgjpkcaaDoor.Q
