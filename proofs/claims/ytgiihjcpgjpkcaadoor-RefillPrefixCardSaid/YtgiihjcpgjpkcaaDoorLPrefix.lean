/- RefillPrefix: the statement's own function answers true, at every day and numbers; no program in sight. -/
import Derived.Test.YtgiihjcpgjpkcaaDoorHMoved
import Derived.Test.YtgiihjcpgjpkcaaDoorHRefV
import Derived.Test.YtgiihjcpgjpkcaaDoorHEqual
import Derived.Test.YtgiihjcpgjpkcaaDoorQWPrefix
namespace Go.Proofs.YtgiihjcpgjpkcaaDoor.Q
open Go.RowKit Go.Proofs.YtgiihjcpgjpkcaaDoorW.PrintWords Go.Proofs.YtgiihjcpgjpkcaaDoorW.PrintLast Go.Proofs.YtgiihjcpgjpkcaaDoorW.PrintMore
set_option linter.unusedVariables false
set_option linter.unusedSimpArgs false

theorem prefix_unknown {d : List S51} (hv : vd d = true) {n : Nat} (h : (d.drop n).any knEv = false) : ∀ j : Int, (n : Int) ≤ j → j < d.length → isK d j = false := by
  intro j h1 h2
  obtain ⟨p, rfl⟩ := Int.eq_ofNat_of_zero_le (show 0 ≤ j by omega)
  have hp : p < d.length := by omega
  have hm : rd_T51 d (p : Int) ∈ d.drop n := by
    rw [rd_at hp]
    refine List.mem_iff_getElem.2 ⟨p - n, by rw [List.length_drop]; omega, ?_⟩
    rw [List.getElem_drop]
    congr 1
    omega
  have hf := List.any_eq_false.1 h _ hm
  refine Bool.eq_false_iff.2 fun hK => hf ?_
  have hb := (atOf_bound hv h2).2.2.2.2.1 hK
  rw [atOf_nat] at hb
  exact decide_eq_true hb
theorem prefix_j1 {d : List S51} (hv : vd d = true) (hc : (clashOf d).2.2 = false) {n : Nat} (h1 : 1 ≤ n) (hn : n ≤ d.length) {i : Int} (hi : 0 ≤ i) (hi' : i < n) (k : Nat) :
    waterhourlaw04_RefillPrefix.j1 (k + 1) d n 0 false (timeOf (d.take n) i).1 (timeOf (d.take n) i).2 (timeOf d i).1 (timeOf d i).2 (betweenOf (d.take n) (i - 1) i).1 (betweenOf (d.take n) (i - 1) i).2 (betweenOf d (i - 1) i).1 (betweenOf d (i - 1) i).2 = some true := by
  have hl := (vd_iff.1 hv).2.1
  have ht := take_time hv h1 hn hi hi'
  have hb := take_between hv h1 hn (a := i - 1) (b := i) (by omega) hi (by omega) hi'
  simp only [waterhourlaw04_RefillPrefix.j1]
  rw [if_neg (by decide), if_pos trivial, if_neg (by omega), if_neg (by omega), if_neg (by omega), if_neg (by omega), if_pos (by omega), if_pos (by omega), Int.toNat_natCast]
  unfold slices_ContainsDay.f
  rw [if_pos ⟨rfl, by rw [List.length_drop]; omega⟩, Option.bind_some]
  cases hany : (d.drop n).any knEv with
  | true => rfl
  | false =>
    have hk := prefix_unknown hv hany
    rw [if_neg (by decide), take_same hv h1 hn hk hi hi', take_between_same hv h1 hn hk (a := i - 1) (b := i) (by omega) hi (by omega) hi']
    simp only [beq_self_eq_true, Bool.and_self, if_true]
theorem prefix_j0 {d : List S51} (hv : vd d = true) {n : Nat} (h1 : 1 ≤ n) (hn : n ≤ d.length) {i : Int} (hi : 0 ≤ i) (hi' : i < n) (k : Nat) (hk : 2001 ≤ k) : waterhourlaw04_RefillPrefix.j0 (k + 1) d n i false = some true := by
  obtain ⟨k, rfl⟩ : ∃ m, k = m + 1 := ⟨k - 1, by omega⟩
  have hl := (vd_iff.1 hv).2.1
  have hv' := take_vd hv h1 hn
  have hlen := take_len hn
  simp only [waterhourlaw04_RefillPrefix.j0]
  rw [if_neg (by decide), if_pos (by omega), if_pos (by omega), Int.toNat_natCast, Option.bind_some, wrap_small (x := i - 1) (by omega) (by omega)]
  rw [pTime_eq (d.take n) i (k + 1) (by omega), pTime_eq d i (k + 1) (by omega), pBetween_eq (d.take n) (i - 1) i (k + 1) (by omega), pBetween_eq d (i - 1) i (k + 1) (by omega)]
  rw [betweenErr_yes hv (a := i - 1) (b := i) (by omega), betweenErr_yes hv' (a := i - 1) (b := i) (by omega), readyA_31 hv (i := i) (by omega), readyA_31 hv' (i := i) (by omega)]
  cases hc : (clashOf d).2.2 with
  | false =>
    have hc' := take_noClash hn hc
    rw [hc']
    simp only [Option.bind_some, Bool.false_eq_true, if_false, if_true]
    rw [if_neg (by decide)]
    exact prefix_j1 hv hc h1 hn hi hi' k
  | true =>
    cases hc' : (clashOf (d.take n)).2.2 with
    | true => rfl
    | false => rfl
theorem law_Prefix (d : List S51) (n i : Int) : waterhourlaw04_RefillPrefix.f 3000 d n i = some true := by
  unfold waterhourlaw04_RefillPrefix.f law_sane.f
  rw [Valid_eq d 3000 (by omega)]
  simp only [Option.bind_some, if_true]
  have jt : waterhourlaw04_RefillPrefix.j0 3000 d n i true = some true := by simp only [waterhourlaw04_RefillPrefix.j0, if_true]
  rw [jt]
  by_cases hv : vd d = true
  · rw [if_pos hv]
    by_cases h1 : n < 1
    · rw [if_pos h1]
    · rw [if_neg h1]
      by_cases h2 : n > (d.length : Int)
      · rw [if_pos h2]
      · rw [if_neg h2]
        by_cases h3 : i < 0
        · rw [if_pos h3]
        · rw [if_neg h3]
          by_cases h4 : i ≥ n
          · rw [decide_eq_true h4, jt]
          · rw [decide_eq_false h4]
            obtain ⟨p, rfl⟩ := Int.eq_ofNat_of_zero_le (show 0 ≤ n by omega)
            exact prefix_j0 hv (by omega) (by omega) (by omega) (by omega) 2999 (by omega)
  · rw [if_neg hv]
end Go.Proofs.YtgiihjcpgjpkcaaDoor.Q
