/- What becomes of a day when the minute of one event is set, and what Attain and Known tell; no program in sight. -/
import Derived.Test.YtgiihjcpgjpkcaaDoorHChain
import Derived.Test.YtgiihjcpgjpkcaaDoorHAns
import Derived.Test.YtgiihjcpgjpkcaaDoorHKnown
import Derived.Test.YtgiihjcpgjpkcaaDoorQH
namespace Go.Proofs.YtgiihjcpgjpkcaaDoor.Q
open Go.RowKit Go.Proofs.YtgiihjcpgjpkcaaDoorW.PrintWords Go.Proofs.YtgiihjcpgjpkcaaDoorW.PrintLast Go.Proofs.YtgiihjcpgjpkcaaDoorW.PrintMore
set_option linter.unusedVariables false
set_option linter.unusedSimpArgs false

theorem sums_congr : ∀ (l m : List S51), l.map (·.f0) = m.map (·.f0) → sLo l = sLo m ∧ sHi l = sHi m
  | [], [], _ => ⟨rfl, rfl⟩
  | e :: l, x :: m, h => by
    simp only [List.map_cons, List.cons.injEq] at h
    have ih := sums_congr l m h.2
    exact ⟨by rw [sLo, sLo, h.1, ih.1], by rw [sHi, sHi, h.1, ih.2]⟩
  | [], _ :: _, h => by simp at h
  | _ :: _, [], h => by simp at h
theorem SL_congr {d e : List S51} (h : d.map (·.f0) = e.map (·.f0)) (i : Int) : SL d i = SL e i ∧ SH d i = SH e i := by
  unfold SL SH
  exact sums_congr _ _ (by rw [List.map_take, List.map_take, h])
theorem rd_at {d : List S51} {n : Nat} (h : n < d.length) : rd_T51 d (n : Int) = d[n] := by
  unfold rd_T51
  rw [Int.toNat_natCast, List.getD_eq_getElem?_getD, List.getElem?_eq_getElem h]
  rfl
theorem rd_set_ne {l : List S51} {i j : Nat} (x : S51) (h : i ≠ j) : rd_T51 (l.set i x) (j : Int) = rd_T51 l (j : Int) := by
  unfold rd_T51
  rw [Int.toNat_natCast, List.getD_eq_getElem?_getD, List.getD_eq_getElem?_getD, List.getElem?_set_ne h]
theorem withAt_length (d : List S51) (i : Int) (u : Int × Int) : (withAt d i u).length = d.length := by unfold withAt; rw [List.length_set]
theorem withAt_map {d : List S51} {p : Nat} (h : p < d.length) (u : Int × Int) : (withAt d (p : Int) u).map (·.f0) = d.map (·.f0) := by
  unfold withAt
  rw [Int.toNat_natCast, List.map_set]
  have e : (d.map (·.f0)).set p ((d.map (·.f0))[p]'(by rw [List.length_map]; exact h)) = d.map (·.f0) := List.set_getElem_self (by rw [List.length_map]; exact h)
  refine Eq.trans ?_ e
  congr 1
  rw [List.getElem_map, rd_at h]
theorem withAt_same {d : List S51} {p : Nat} (h : p < d.length) (u : Int × Int) : rd_T51 (withAt d (p : Int) u) (p : Int) = ⟨⟨(rd_T51 d (p : Int)).f0.f0, (rd_T51 d (p : Int)).f0.f1⟩, ⟨u.1, u.2⟩⟩ := by
  unfold withAt
  rw [Int.toNat_natCast]
  exact rd_set _ h
theorem withAt_other {d : List S51} {p q : Nat} (h : p ≠ q) (u : Int × Int) : rd_T51 (withAt d (p : Int) u) (q : Int) = rd_T51 d (q : Int) := by
  unfold withAt
  rw [Int.toNat_natCast]
  exact rd_set_ne _ h
theorem withAt_atOf {d : List S51} {p : Nat} (hp : p < d.length) (u v : Int) (q : Nat) : atOf (withAt d (p : Int) (u, v)) ((q : Int) - 1) = if q = p + 1 then ⟨u, v⟩ else atOf d ((q : Int) - 1) := by
  cases q with
  | zero => rw [if_neg (by omega)]; rfl
  | succ q =>
    rw [show ((q + 1 : Nat) : Int) - 1 = (q : Int) from by omega, atOf_nat, atOf_nat]
    by_cases e : p = q
    · subst e; rw [if_pos rfl, withAt_same hp]
    · rw [if_neg (by omega), withAt_other e]
theorem withAt_isK {d : List S51} {p : Nat} (hp : p < d.length) {u v : Int} (huv : u ≤ v) (q : Nat) : isK (withAt d (p : Int) (u, v)) ((q : Int) - 1) = true ↔ q = p + 1 ∨ isK d ((q : Int) - 1) = true := by
  cases q with
  | zero => exact ⟨fun _ => .inr rfl, fun _ => rfl⟩
  | succ q =>
    rw [show ((q + 1 : Nat) : Int) - 1 = (q : Int) from by omega, isK_iff (by omega), isK_iff (by omega)]
    by_cases e : p = q
    · subst e
      rw [withAt_same hp]
      exact ⟨fun _ => .inl rfl, fun _ h => by simp only at h; omega⟩
    · rw [withAt_other e]
      exact ⟨.inr, fun h => h.resolve_left (by omega)⟩
theorem chain_withAt {d : List S51} {p : Nat} (hp : p < d.length) {u v : Int} (huv : u ≤ v) : chainOf (withAt d (p : Int) (u, v)) = (chainOf d).upd (p + 1) u v := by
  have hS := SL_congr (withAt_map hp (u, v))
  have hA := withAt_atOf hp u v
  have hK := withAt_isK hp huv
  unfold chainOf Chain.upd
  simp only [Chain.mk.injEq]
  refine ⟨withAt_length _ _ _, funext fun q => (hS _).1, funext fun q => (hS _).2, funext fun q => propext (hK q), funext fun q => ?_, funext fun q => ?_⟩
  · rw [hA]; split <;> rfl
  · rw [hA]; split <;> rfl
theorem vd_withAt {d : List S51} (hv : vd d = true) {p : Nat} (hp : p < d.length) {u v : Int} (h : 0 ≤ u ∧ u ≤ v ∧ v ≤ 16777216) : vd (withAt d (p : Int) (u, v)) = true := by
  obtain ⟨h1, h2, h3⟩ := vd_iff.1 hv
  refine vd_iff.2 ⟨by rw [withAt_length]; exact h1, by rw [withAt_length]; exact h2, fun e he => ?_⟩
  unfold withAt at he
  rcases List.mem_or_eq_of_mem_set he with he | rfl
  · exact h3 e he
  · have hx := evOk_iff.1 (rd_ok hv hp)
    exact evOk_iff.2 ⟨hx.1, hx.2.1, hx.2.2.1, .inl h⟩

/-! ### minutes that are attained -/
theorem one_ready {d : List S51} (hv : vd d = true) (hc : (clashOf d).2.2 = false) {p : Nat} (hp : p < d.length) {m : Int} (h1 : (timeOf d (p : Int)).1 ≤ m) (h2 : m ≤ (timeOf d (p : Int)).2) :
    vd (withAt d (p : Int) (m, m)) = true ∧ (clashOf (withAt d (p : Int) (m, m))).2.2 = false := by
  have hr := time_range hv hc (i := (p : Int)) (by omega) (by omega)
  refine ⟨vd_withAt hv hp (by omega), (chain_noClash _).1 ?_⟩
  rw [chain_withAt hp (Int.le_refl m)]
  have hn := (chain_noClash d).2 hc
  have lo := chain_lo hv hn (p := p + 1) (by omega)
  have hi := chain_hi hv hn (p := p + 1) (by omega)
  rw [tmP_succ] at lo hi
  exact hn.upd (chain_ok hv) (by omega) (by show p + 1 ≤ d.length; omega) lo hi h1 h2
theorem ready_of {d : List S51} (hv : vd d = true) (hc : (clashOf d).2.2 = false) : readyE d = 0 := by
  unfold readyE
  rw [if_pos hv, hc]; rfl
theorem readyA_of {d : List S51} (hv : vd d = true) (hc : (clashOf d).2.2 = false) {i : Int} (hi : 0 ≤ i) (hi' : i < d.length) : readyA d i = 0 := by
  unfold readyA
  rw [if_pos hv, if_pos ⟨hi, hi'⟩, hc]; rfl
def attainOf (d : List S51) (i m : Int) : List Int × Bool × Int :=
  if vd d = true then (if 0 ≤ i ∧ i < d.length then (if (clashOf d).2.2 = false ∧ (timeOf d i).1 ≤ m ∧ m ≤ (timeOf d i).2 then (endsTo false (withAt d i (m, m)) d.length, true, 0) else ([], false, 0)) else ([], false, 1)) else ([], false, 40)
theorem attain_no {d : List S51} (hv : vd d = true) {i m : Int} (hi : 0 ≤ i ∧ i < d.length) (h : ¬ ((clashOf d).2.2 = false ∧ (timeOf d i).1 ≤ m ∧ m ≤ (timeOf d i).2)) : attainOf d i m = ([], false, 0) := by
  unfold attainOf
  rw [if_pos hv, if_pos hi, if_neg h]
theorem attain_yes {d : List S51} (hv : vd d = true) {i m : Int} (hi : 0 ≤ i ∧ i < d.length) (h : (clashOf d).2.2 = false ∧ (timeOf d i).1 ≤ m ∧ m ≤ (timeOf d i).2) : attainOf d i m = (endsTo false (withAt d i (m, m)) d.length, true, 0) := by
  unfold attainOf
  rw [if_pos hv, if_pos hi, if_pos h]
theorem ready_one {d : List S51} (hv : vd d = true) {i m : Int} (hi : 0 ≤ i ∧ i < d.length) (h : (clashOf d).2.2 = false ∧ (timeOf d i).1 ≤ m ∧ m ≤ (timeOf d i).2) : readyE (withAt d i (m, m)) = 0 := by
  obtain ⟨p, rfl⟩ := Int.eq_ofNat_of_zero_le hi.1
  have := one_ready hv h.1 (p := p) (by omega) h.2.1 h.2.2
  exact ready_of this.1 this.2
theorem pAttain_eq (d : List S51) (i m : Int) (k : Nat) (hk : 2000 ≤ k) : refill_Attain.f k d i m = some (attainOf d i m) := by
  obtain ⟨k, rfl⟩ : ∃ m, k = m + 2 := ⟨k - 2, by omega⟩
  unfold refill_Attain.f
  rw [event_1 d 0 i (k + 2) (by omega)]
  by_cases hv : vd d = true
  · rw [if_pos hv]
    by_cases hi : 0 ≤ i ∧ i < d.length
    · rw [if_pos hi]
      simp only [Option.bind_some, if_true]
      have jt : refill_Attain.j0 (k + 2) d i m true = some ([], false, 0) := by simp only [refill_Attain.j0, if_true]
      rw [possible_eq hv, jt]
      simp only [Option.bind_some]
      cases hc : (clashOf d).2.2 with
      | true =>
        rw [attain_no hv hi (by rw [hc]; simp)]
        simp only [Bool.not_true, Bool.not_false, jt]
        repeat' split
        all_goals rfl
      | false =>
        have hr := time_range hv hc hi.1 hi.2
        have ht : refill_time.f d i = some (timeOf d i) := by unfold refill_time.f; rw [if_pos ⟨hv, hi.1, hi.2⟩]
        have jt' : refill_Attain.j1 (k + 1) d i m true = some ([], false, 0) := by simp only [refill_Attain.j1, if_true]
        by_cases h1 : m < 0
        · rw [if_pos h1, attain_no hv hi (by omega)]
        · rw [if_neg h1]
          by_cases h2 : m > 16777216
          · rw [if_pos h2, attain_no hv hi (by omega)]
          · rw [if_neg h2]
            simp only [Bool.not_true, Bool.not_false, refill_Attain.j0]
            rw [if_neg (by decide), ht]
            simp only [Option.bind_some]
            by_cases h3 : m < (timeOf d i).1
            · rw [if_pos h3, jt', attain_no hv hi (by omega)]
            · rw [if_neg h3]
              by_cases h4 : m > (timeOf d i).2
              · rw [decide_eq_true h4, jt', attain_no hv hi (by omega)]
              · have hy : (clashOf d).2.2 = false ∧ (timeOf d i).1 ≤ m ∧ m ≤ (timeOf d i).2 := ⟨hc, by omega, by omega⟩
                have hl := (vd_iff.1 hv).2.1
                have ec : slices_CloneDay.f d = some d := by unfold slices_CloneDay.f; rw [if_pos (by omega)]
                have ew : d.set i.toNat (⟨⟨(rd_T51 d i).f0.f0, (rd_T51 d i).f0.f1⟩, ⟨m, m⟩⟩ : S51) = withAt d i (m, m) := rfl
                rw [decide_eq_false h4, attain_yes hv hi hy]
                simp only [refill_Attain.j1]
                rw [if_neg (by decide), ec]
                simp only [Option.bind_some]
                rw [if_pos hi.1, if_pos hi.2, ew]
                unfold refill_Earliest.f
                rw [ready_one hv hi hy, withAt_length]
                rfl
    · rw [if_neg hi]
      unfold attainOf
      rw [if_pos hv, if_neg hi]
      rfl
  · rw [if_neg hv]
    unfold attainOf
    rw [if_neg hv]
    rfl
/-- What is attained is allowed, and has the minute that is asked for. -/
theorem attained {d : List S51} (hv : vd d = true) {i m : Int} (hi : 0 ≤ i ∧ i < d.length) (h : (clashOf d).2.2 = false ∧ (timeOf d i).1 ≤ m ∧ m ≤ (timeOf d i).2) :
    checkOf d (endsTo false (withAt d i (m, m)) d.length) = 0 ∧ rd (endsTo false (withAt d i (m, m)) d.length) i = m := by
  obtain ⟨p, rfl⟩ := Int.eq_ofNat_of_zero_le hi.1
  have hp : p < d.length := by omega
  have h1 := one_ready hv h.1 hp h.2.1 h.2.2
  have h2 := check_ends h1.1 h1.2 false
  rw [withAt_length] at h2
  have h3 := (check_chain h1.1).1 h2
  rw [chain_withAt hp (Int.le_refl m)] at h3
  have hn := (chain_noClash d).2 h.1
  have he := chain_early hv hn
  have hl := chain_late hv hn
  have h4 := (Chain.upd_allows (c := chainOf d) (r := p + 1) (u := m) (v := m) (by show p + 1 ≤ d.length; omega) (fun hK => by
    have g1 := he.at_ (p + 1) (by show p + 1 ≤ d.length; omega) hK
    have g2 := hl.at_ (p + 1) (by show p + 1 ≤ d.length; omega) hK
    simp only [tmP_succ] at g1 g2
    omega)).1 h3.2
  have hlen : (endsTo false (withAt d (p : Int) (m, m)) d.length).length = d.length := endsTo_length _ _ _
  refine ⟨(check_chain hv).2 ⟨hlen, h4.1⟩, ?_⟩
  have h5 := h4.2
  rw [prev_succ] at h5
  omega
end Go.Proofs.YtgiihjcpgjpkcaaDoor.Q
