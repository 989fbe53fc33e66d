/- Contracts walked by hand and lemmas for them, as far as RefillDays needs them. -/
import Derived.Test.YtgiihjcpgjpkcaaDoorKHTimes
namespace Go.Proofs.YtgiihjcpgjpkcaaDoor.Q
open Go.RowKit Go.Proofs.YtgiihjcpgjpkcaaDoorW.PrintWords Go.Proofs.YtgiihjcpgjpkcaaDoorW.PrintLast Go.Proofs.YtgiihjcpgjpkcaaDoorW.PrintMore
set_option linter.unusedVariables false
set_option linter.unusedSimpArgs false
def readyE (d : List S51) : Int := if vd d = true then (if (clashOf d).2.2 = true then 31 else 0) else 40
theorem ready_E (d : List S51) (k : Nat) (hk : 40 ≤ k) : refill_ready.f k d 0 [] = some (readyE d) := by
  rw [ready_eq d 0 [] (by decide) k hk]
  rfl
def refill_Earliest.f (l0 : List S51) : Option (List Int × Int) := some (if readyE l0 = 0 then endsTo false l0 l0.length else [], readyE l0)
set_option maxHeartbeats 4000000 in
set_option maxRecDepth 100000 in
theorem refill_Earliest.calls (A0 : Option Addr) (c0 : Nat) (l0 : List S51) (r1 : List Int) (r2 : Int) (w : World) (hr0 : Kd.C k51 w A0 l0.length l0) (hc0 : l0.length ≤ c0) (h : refill_Earliest.f l0 = some (r1, r2)) :
    Calls Tryd.prog 41 #[.slice A0 l0.length c0] w fun e w' => ∃ v0_ : Value, e = .returned (.tuple #[v0_, .int .i64 r2]) ∧ Kd.R (Kd.int .i64) 3 w' w.heap.size (fun _ => True) v0_ r1 ∧ Below w.heap.size w w' := by
  unfold refill_Earliest.f at h
  simp only [Option.some.injEq, Prod.mk.injEq] at h
  obtain ⟨h1, h2⟩ := h
  have hrd := ready_E l0 40 (Nat.le_refl _)
  by_cases h0 : readyE l0 = 0
  · have hv : vd l0 = true := by
      unfold readyE at h0
      by_cases hv : vd l0 = true
      · exact hv
      · rw [if_neg hv] at h0; omega
    rw [if_pos h0] at h1
    rw [h0] at hrd h2
    subst h1 h2
    have C := times_yes_false A0 c0 l0 w hr0 hc0 hv hrd
    have HC := Aside0.mk C
    clear C hrd hv h0 hr0 hc0
    go_enter Tryd.func41, Tryd.ntmps41
    go_wp2_with fail
    refine HC.out.mono ?_
    rintro e w1 ⟨v, rfl, ho, hb⟩
    have HO := Aside0.mk ho
    have HB := Aside0.mk hb
    clear ho hb
    go_wp2
    go_ret2
    exact ⟨v, rfl, HO.out, HB.out⟩
  · rw [if_neg h0] at h1
    subst h1 h2
    have C := times_no 87 (readyE l0) A0 c0 l0 w hr0 hc0 h0 hrd
    have HC := Aside0.mk C
    clear C hrd h0 hr0 hc0
    go_enter Tryd.func41, Tryd.ntmps41
    go_wp2_with fail
    refine HC.out.mono ?_
    rintro e w1 ⟨rfl, hb⟩
    have HB := Aside0.mk hb
    clear hb
    go_wp2
    go_ret2
    exact ⟨_, rfl, Kd.R_nil _ _ _ _ _, HB.out⟩
def refill_Latest.f (l0 : List S51) : Option (List Int × Int) := some (if readyE l0 = 0 then endsTo true l0 l0.length else [], readyE l0)
set_option maxHeartbeats 4000000 in
set_option maxRecDepth 100000 in
theorem refill_Latest.calls (A0 : Option Addr) (c0 : Nat) (l0 : List S51) (r1 : List Int) (r2 : Int) (w : World) (hr0 : Kd.C k51 w A0 l0.length l0) (hc0 : l0.length ≤ c0) (h : refill_Latest.f l0 = some (r1, r2)) :
    Calls Tryd.prog 42 #[.slice A0 l0.length c0] w fun e w' => ∃ v0_ : Value, e = .returned (.tuple #[v0_, .int .i64 r2]) ∧ Kd.R (Kd.int .i64) 3 w' w.heap.size (fun _ => True) v0_ r1 ∧ Below w.heap.size w w' := by
  unfold refill_Latest.f at h
  simp only [Option.some.injEq, Prod.mk.injEq] at h
  obtain ⟨h1, h2⟩ := h
  have hrd := ready_E l0 40 (Nat.le_refl _)
  by_cases h0 : readyE l0 = 0
  · have hv : vd l0 = true := by
      unfold readyE at h0
      by_cases hv : vd l0 = true
      · exact hv
      · rw [if_neg hv] at h0; omega
    rw [if_pos h0] at h1
    rw [h0] at hrd h2
    subst h1 h2
    have C := times_yes_true A0 c0 l0 w hr0 hc0 hv hrd
    have HC := Aside0.mk C
    clear C hrd hv h0 hr0 hc0
    go_enter Tryd.func42, Tryd.ntmps42
    go_wp2_with fail
    refine HC.out.mono ?_
    rintro e w1 ⟨v, rfl, ho, hb⟩
    have HO := Aside0.mk ho
    have HB := Aside0.mk hb
    clear ho hb
    go_wp2
    go_ret2
    exact ⟨v, rfl, HO.out, HB.out⟩
  · rw [if_neg h0] at h1
    subst h1 h2
    have C := times_no 88 (readyE l0) A0 c0 l0 w hr0 hc0 h0 hrd
    have HC := Aside0.mk C
    clear C hrd h0 hr0 hc0
    go_enter Tryd.func42, Tryd.ntmps42
    go_wp2_with fail
    refine HC.out.mono ?_
    rintro e w1 ⟨rfl, hb⟩
    have HB := Aside0.mk hb
    clear hb
    go_wp2
    go_ret2
    exact ⟨_, rfl, Kd.R_nil _ _ _ _ _, HB.out⟩
end Go.Proofs.YtgiihjcpgjpkcaaDoor.Q
