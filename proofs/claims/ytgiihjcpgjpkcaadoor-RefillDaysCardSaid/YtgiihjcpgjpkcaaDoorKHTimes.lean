/- Contracts walked by hand and lemmas for them, as far as RefillDays needs them. -/
import Derived.Test.YtgiihjcpgjpkcaaDoorKM0
import Derived.Test.YtgiihjcpgjpkcaaDoorKQV
namespace Go.Proofs.YtgiihjcpgjpkcaaDoor.Q
open Go.RowKit Go.Proofs.YtgiihjcpgjpkcaaDoorW.PrintWords Go.Proofs.YtgiihjcpgjpkcaaDoorW.PrintLast Go.Proofs.YtgiihjcpgjpkcaaDoorW.PrintMore
set_option linter.unusedVariables false
set_option linter.unusedSimpArgs false
def endOf (lat : Bool) (p : Int × Int) : Int := if lat then p.2 else p.1
def endsTo (lat : Bool) (d : List S51) (k : Nat) : List Int := (List.range k).map fun (j : Nat) => endOf lat (timeOf d (j : Int))
theorem endsTo_succ (lat : Bool) (d : List S51) (k : Nat) : endsTo lat d (k + 1) = endsTo lat d k ++ [endOf lat (timeOf d (k : Int))] := by simp [endsTo, List.range_succ]
theorem endsTo_length (lat : Bool) (d : List S51) (k : Nat) : (endsTo lat d k).length = k := by simp [endsTo]
set_option maxHeartbeats 4000000 in
set_option maxRecDepth 100000 in
theorem times_no (g : Nat) (e : Int) (A0 : Option Addr) (c0 : Nat) (l0 : List S51) (w : World) (hr0 : Kd.C k51 w A0 l0.length l0) (hc0 : l0.length ≤ c0) (hne : e ≠ 0) (h : refill_ready.f 40 l0 0 [] = some e) :
    Calls Tryd.prog 86 #[.slice A0 l0.length c0, .func (.func g) #[] #[]] w fun en w' => en = .returned (.tuple #[.slice none 0 0, .int .i64 e]) ∧ Below w.heap.size w w' := by
  have c3b1 : (e != 0) = true := bne_iff_ne.mpr hne
  have H := Aside0.mk h
  clear h hne
  go_enter Tryd.func86, Tryd.ntmps86
  go_wp2_with fail
  refine (refill_ready.calls 40 _ _ l0 _ _ _ [] _ _ hr0 hc0 (Kd.C_nil _ _) (Nat.le_refl _) H.out).mono ?_
  rintro en w4 ⟨rfl, hb⟩
  go_wp2
  go_ret2
  exact ⟨rfl, hb⟩
set_option maxHeartbeats 8000000 in
set_option maxRecDepth 100000 in
theorem times_yes_false (A0 : Option Addr) (c0 : Nat) (l0 : List S51) (w : World) (hr0 : Kd.C k51 w A0 l0.length l0) (hc0 : l0.length ≤ c0) (hv : vd l0 = true) (h : refill_ready.f 40 l0 0 [] = some 0) :
    Calls Tryd.prog 86 #[.slice A0 l0.length c0, .func (.func 87) #[] #[]] w fun en w' => ∃ v : Value, en = .returned (.tuple #[v, .int .i64 0]) ∧ Kd.R (Kd.int .i64) 3 w' w.heap.size (fun _ => True) v (endsTo false l0 l0.length) ∧ Below w.heap.size w w' := by
  have hl := (vd_iff.1 hv).2.1
  have HC0 := Aside0.mk hc0
  have HR0 := Aside0.mk hr0
  have HV := Aside0.mk hv
  have H := Aside0.mk h
  clear h hc0 hr0 hv
  go_enter Tryd.func86, Tryd.ntmps86
  go_wp2_with fail
  refine (refill_ready.calls 40 _ _ l0 _ _ _ [] _ _ HR0.out HC0.out (Kd.C_nil _ _) (Nat.le_refl _) H.out).mono ?_
  rintro en w4 ⟨rfl, hb⟩
  have HB4 := Aside0.mk hb
  clear hb
  go_wp2
  go_loopw [7, 16] (fun v i w' => ∃ (k : Nat), k ≤ l0.length ∧ i = .int .i64 k ∧ Aside0 (Kd.R (Kd.int .i64) 3 w' w.heap.size (fun _ => True) v (endsTo false l0 k)) ∧ Aside0 (Below w.heap.size w w')) (fun _ i _ => l0.length - (intOf i).toNat)
  case atStart => exact ⟨0, Nat.zero_le _, rfl, ⟨Kd.R_nil _ _ _ _ _⟩, HB4⟩
  case round =>
    clear HB4
    obtain ⟨k, hk, rfl, HO, HB⟩ := hrel
    by_cases hlt : k < l0.length
    · have hf : refill_time.f l0 (k : Int) = some ((timeOf l0 (k : Int)).1, (timeOf l0 (k : Int)).2) := by
        unfold refill_time.f
        rw [if_pos ⟨HV.out, by omega, by omega⟩]
      have HF := Aside0.mk hf
      clear hf
      have hen : endOf false (timeOf l0 (k : Int)) = (timeOf l0 (k : Int)).1 := rfl
      have HEN := Aside0.mk hen
      clear hen
      go_wp2_with fail
      refine (refill_time.calls _ _ l0 _ _ _ _ (Kd.C_below HR0.out HB.out) HC0.out HF.out).mono ?_
      rintro en w5 ⟨rfl, hb5⟩
      go_wp2_with fail
      refine (refill_Earliest_1.calls _ _ _ _ rfl).mono ?_
      rintro en w6 ⟨rfl, hb6⟩
      have HB6 := Aside0.mk (below_then (below_then HB.out HB.out.size hb5) (Nat.le_trans HB.out.size hb5.size) hb6)
      have HO6 := Aside0.mk (Kd.R_below (Kd.R_below HO.out hb5) hb6)
      have hkl := endsTo_length false l0 k
      have HKL := Aside0.mk hkl
      clear hkl hb5 hb6
      go_wp2_with (at_builtin; refine Kd.R_append (Kd.int .i64) (w0 := w) w.heap.size rfl (.tmp 19) (.tmp 25) 26 3 (.int .i64 0) 8 rfl Tryd.underlying26 info3 rfl (by decide) (by omega) _ (endsTo false l0 k) (timeOf l0 (k : Int)).1 [.int .i64 (timeOf l0 (k : Int)).1] (fun _ => True) (fun _ => False) rfl (by first | (go_simp; done) | (go_simp; rfl)) ?aP (fun _ hk => hk.elim) ?aF ?aO ?aB ?aS ?aL ?_; (case aP => exact rfl); (case aB => exact HB6.out); (case aF => exact (fun _ _ => trivial)); (case aO => exact HO6.out); (case aS => exact HB6.out.size); (case aL => have := HKL.out; omega); intro v303 w11 ho hb hg hat; have HO11 := Aside0.mk ho; have HB11 := Aside0.mk hb; clear ho hb hg hat)
      go_roundw
      case rel => exact ⟨k + 1, by omega, by simp, ⟨by rw [endsTo_succ, HEN.out]; exact HO11.out⟩, HB11⟩
      case measure => simp [intOf]; omega
    · obtain rfl : k = l0.length := by omega
      go_wp2
      go_ret2
      exact ⟨_, rfl, HO.out, HB.out⟩
set_option maxHeartbeats 8000000 in
set_option maxRecDepth 100000 in
theorem times_yes_true (A0 : Option Addr) (c0 : Nat) (l0 : List S51) (w : World) (hr0 : Kd.C k51 w A0 l0.length l0) (hc0 : l0.length ≤ c0) (hv : vd l0 = true) (h : refill_ready.f 40 l0 0 [] = some 0) :
    Calls Tryd.prog 86 #[.slice A0 l0.length c0, .func (.func 88) #[] #[]] w fun en w' => ∃ v : Value, en = .returned (.tuple #[v, .int .i64 0]) ∧ Kd.R (Kd.int .i64) 3 w' w.heap.size (fun _ => True) v (endsTo true l0 l0.length) ∧ Below w.heap.size w w' := by
  have hl := (vd_iff.1 hv).2.1
  have HC0 := Aside0.mk hc0
  have HR0 := Aside0.mk hr0
  have HV := Aside0.mk hv
  have H := Aside0.mk h
  clear h hc0 hr0 hv
  go_enter Tryd.func86, Tryd.ntmps86
  go_wp2_with fail
  refine (refill_ready.calls 40 _ _ l0 _ _ _ [] _ _ HR0.out HC0.out (Kd.C_nil _ _) (Nat.le_refl _) H.out).mono ?_
  rintro en w4 ⟨rfl, hb⟩
  have HB4 := Aside0.mk hb
  clear hb
  go_wp2
  go_loopw [7, 16] (fun v i w' => ∃ (k : Nat), k ≤ l0.length ∧ i = .int .i64 k ∧ Aside0 (Kd.R (Kd.int .i64) 3 w' w.heap.size (fun _ => True) v (endsTo true l0 k)) ∧ Aside0 (Below w.heap.size w w')) (fun _ i _ => l0.length - (intOf i).toNat)
  case atStart => exact ⟨0, Nat.zero_le _, rfl, ⟨Kd.R_nil _ _ _ _ _⟩, HB4⟩
  case round =>
    clear HB4
    obtain ⟨k, hk, rfl, HO, HB⟩ := hrel
    by_cases hlt : k < l0.length
    · have hf : refill_time.f l0 (k : Int) = some ((timeOf l0 (k : Int)).1, (timeOf l0 (k : Int)).2) := by
        unfold refill_time.f
        rw [if_pos ⟨HV.out, by omega, by omega⟩]
      have HF := Aside0.mk hf
      clear hf
      have hen : endOf true (timeOf l0 (k : Int)) = (timeOf l0 (k : Int)).2 := rfl
      have HEN := Aside0.mk hen
      clear hen
      go_wp2_with fail
      refine (refill_time.calls _ _ l0 _ _ _ _ (Kd.C_below HR0.out HB.out) HC0.out HF.out).mono ?_
      rintro en w5 ⟨rfl, hb5⟩
      go_wp2_with fail
      refine (refill_Latest_1.calls _ _ _ _ rfl).mono ?_
      rintro en w6 ⟨rfl, hb6⟩
      have HB6 := Aside0.mk (below_then (below_then HB.out HB.out.size hb5) (Nat.le_trans HB.out.size hb5.size) hb6)
      have HO6 := Aside0.mk (Kd.R_below (Kd.R_below HO.out hb5) hb6)
      have hkl := endsTo_length true l0 k
      have HKL := Aside0.mk hkl
      clear hkl hb5 hb6
      go_wp2_with (at_builtin; refine Kd.R_append (Kd.int .i64) (w0 := w) w.heap.size rfl (.tmp 19) (.tmp 25) 26 3 (.int .i64 0) 8 rfl Tryd.underlying26 info3 rfl (by decide) (by omega) _ (endsTo true l0 k) (timeOf l0 (k : Int)).2 [.int .i64 (timeOf l0 (k : Int)).2] (fun _ => True) (fun _ => False) rfl (by first | (go_simp; done) | (go_simp; rfl)) ?aP (fun _ hk => hk.elim) ?aF ?aO ?aB ?aS ?aL ?_; (case aP => exact rfl); (case aB => exact HB6.out); (case aF => exact (fun _ _ => trivial)); (case aO => exact HO6.out); (case aS => exact HB6.out.size); (case aL => have := HKL.out; omega); intro v303 w11 ho hb hg hat; have HO11 := Aside0.mk ho; have HB11 := Aside0.mk hb; clear ho hb hg hat)
      go_roundw
      case rel => exact ⟨k + 1, by omega, by simp, ⟨by rw [endsTo_succ, HEN.out]; exact HO11.out⟩, HB11⟩
      case measure => simp [intOf]; omega
    · obtain rfl : k = l0.length := by omega
      go_wp2
      go_ret2
      exact ⟨_, rfl, HO.out, HB.out⟩
end Go.Proofs.YtgiihjcpgjpkcaaDoor.Q
