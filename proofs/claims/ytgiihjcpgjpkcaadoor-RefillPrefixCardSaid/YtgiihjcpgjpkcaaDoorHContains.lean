/- The contract of slices.ContainsFunc at days and the question whether a minute is known: whether one of the events has a known minute. -/
import Derived.Test.YtgiihjcpgjpkcaaDoorQV
namespace Go.Proofs.YtgiihjcpgjpkcaaDoor.Q
open Go.RowKit Go.Proofs.YtgiihjcpgjpkcaaDoorW.PrintWords Go.Proofs.YtgiihjcpgjpkcaaDoorW.PrintLast Go.Proofs.YtgiihjcpgjpkcaaDoorW.PrintMore
set_option linter.unusedVariables false
set_option linter.unusedSimpArgs false
def knEv (e : S51) : Bool := decide (e.f1.f0 ≤ e.f1.f1)
set_option maxHeartbeats 8000000 in
set_option maxRecDepth 100000 in
theorem index_calls (A0 : Option Addr) (c0 : Nat) (l0 : List S51) (w : World) (hr0 : Kd.C k51 w A0 l0.length l0) (hc0 : l0.length ≤ c0) (hl : l0.length ≤ 1000000) :
    Calls Tryd.prog 91 #[.slice A0 l0.length c0, .func (.func 56) #[] #[]] w fun e w' => ∃ i : Int, e = .returned (.int .i64 i) ∧ decide (0 ≤ i) = l0.any knEv ∧ Below w.heap.size w w' := by
  have hu51 := Tryd.underlying51
  have hu49 := Tryd.underlying49
  have HR0 := Aside0.mk hr0
  have HC0 := Aside0.mk hc0
  clear hr0 hc0
  go_enter Tryd.func91, Tryd.ntmps91
  go_wp2
  go_loopw [5, 8] (fun v5 i w' => ∃ k : Nat, k ≤ l0.length ∧ i = .int .i64 k ∧ Aside0 (∀ j : Nat, j < k → knEv (rd_T51 l0 (j : Int)) = false) ∧ Aside0 (Below w.heap.size w w')) (fun _ i _ => l0.length - (intOf i).toNat)
  case atStart => exact ⟨0, Nat.zero_le _, rfl, ⟨fun j hj => absurd hj (Nat.not_lt_zero _)⟩, ⟨Below.refl _ _⟩⟩
  case round =>
    obtain ⟨k, hk, rfl, HN, HB⟩ := hrel
    by_cases hlt : k < l0.length
    · obtain ⟨ad, e9, hx0, hx1, hx2, hx3⟩ := at_T51 HR0.out (k : Int) (by omega) (by omega)
      cases e9
      rw [Int.toNat_natCast] at hx0 hx1 hx2 hx3
      replace hx0 := (HB.out.cell (World.block_lt_of_cell? w _ hx0)).trans hx0
      replace hx1 := (HB.out.cell (World.block_lt_of_cell? w _ hx1)).trans hx1
      replace hx2 := (HB.out.cell (World.block_lt_of_cell? w _ hx2)).trans hx2
      replace hx3 := (HB.out.cell (World.block_lt_of_cell? w _ hx3)).trans hx3
      have p9 : ((0 : Int) ≤ (k : Int)) = True := eq_true (by omega)
      have q9 : ((k : Int) < (l0.length : Int)) = True := eq_true (by omega)
      go_wp2_with fail
      refine (waterhourlaw04_RefillPrefix_1.calls _ _ _ _ (knEv (rd_T51 l0 (k : Int))) _ rfl).mono ?_
      rintro en w6 ⟨rfl, hb6⟩
      have HB6 := Aside0.mk (below_then HB.out HB.out.size hb6)
      clear hb6
      cases hkn : knEv (rd_T51 l0 (k : Int)) with
      | true =>
        have HK := Aside0.mk hkn
        clear hkn
        go_wp2
        go_ret
        refine ⟨_, rfl, ?_, HB6.out⟩
        have hany : l0.any knEv = true := List.any_eq_true.2 ⟨rd_T51 l0 (k : Int), by unfold rd_T51; rw [Int.toNat_natCast, List.getD_eq_getElem?_getD, List.getElem?_eq_getElem hlt]; exact List.getElem_mem hlt, HK.out⟩
        rw [hany]
        exact decide_eq_true (by omega)
      | false =>
        have HK := Aside0.mk hkn
        clear hkn
        go_wp2
        go_roundw
        case rel =>
          refine ⟨k + 1, by omega, by simp, ⟨fun j hj => ?_⟩, HB6⟩
          by_cases e : j = k
          · subst e; exact HK.out
          · exact HN.out j (by omega)
        case measure => simp [intOf]; omega
    · obtain rfl : k = l0.length := by omega
      go_wp2
      go_ret
      refine ⟨_, rfl, ?_, HB.out⟩
      have hany : l0.any knEv = false := List.any_eq_false.2 fun e he hc => by
        obtain ⟨p, hp, rfl⟩ := List.getElem_of_mem he
        have h := HN.out p hp
        unfold rd_T51 at h
        rw [Int.toNat_natCast, List.getD_eq_getElem?_getD, List.getElem?_eq_getElem hp] at h
        simp only [Option.getD_some] at h
        rw [h] at hc; cases hc
      rw [hany]
      rfl
def slices_ContainsDay.f (l0 : List S51) (g : Nat) : Option Bool := if g = 56 ∧ l0.length ≤ 1000000 then some (l0.any knEv) else none
set_option maxHeartbeats 8000000 in
set_option maxRecDepth 100000 in
theorem slices_ContainsDay.calls (A0 : Option Addr) (c0 : Nat) (l0 : List S51) (g : Nat) (r : Bool) (w : World) (hr0 : Kd.C k51 w A0 l0.length l0) (hc0 : l0.length ≤ c0) (h : slices_ContainsDay.f l0 g = some r) :
    Calls Tryd.prog 55 #[.slice A0 l0.length c0, .func (.func g) #[] #[]] w fun e w' => e = .returned (.bool r) ∧ Below w.heap.size w w' := by
  unfold slices_ContainsDay.f at h
  by_cases hc : g = 56 ∧ l0.length ≤ 1000000
  · rw [if_pos hc] at h
    obtain rfl := Option.some.inj h
    obtain ⟨rfl, hl⟩ := hc
    clear h
    have HR0 := Aside0.mk hr0
    have HC0 := Aside0.mk hc0
    have HL := Aside0.mk hl
    clear hr0 hc0 hl
    go_enter Tryd.func55, Tryd.ntmps55
    go_wp2_with fail
    refine (index_calls _ _ l0 _ HR0.out HC0.out HL.out).mono ?_
    rintro en w4 ⟨i, rfl, hi, hb⟩
    have HI := Aside0.mk hi
    have HB := Aside0.mk hb
    clear hi hb
    go_wp2
    go_ret
    exact ⟨by rw [← HI.out]; rfl, HB.out⟩
  · rw [if_neg hc] at h
    cases h
end Go.Proofs.YtgiihjcpgjpkcaaDoor.Q
