/- Plain laws for RefillDays, no program in sight but the functions' names. -/
import Derived.Test.YtgiihjcpgjpkcaaDoorKM1
import Derived.Test.YtgiihjcpgjpkcaaDoorKHCatD
import Derived.Test.YtgiihjcpgjpkcaaDoorKHWithout
import Derived.Test.YtgiihjcpgjpkcaaDoorKQR
import Derived.Test.YtgiihjcpgjpkcaaDoorKQS
import Derived.Test.YtgiihjcpgjpkcaaDoorKQT
import Derived.Test.YtgiihjcpgjpkcaaDoorKQU
import Derived.Test.YtgiihjcpgjpkcaaDoorKHEqual
import Derived.Test.YtgiihjcpgjpkcaaDoorKQWDays
section
namespace Go.Proofs.YtgiihjcpgjpkcaaDoor.Q
open Go.RowKit Go.Proofs.YtgiihjcpgjpkcaaDoorW.PrintWords Go.Proofs.YtgiihjcpgjpkcaaDoorW.PrintLast Go.Proofs.YtgiihjcpgjpkcaaDoorW.PrintMore
set_option linter.unusedVariables false
set_option linter.unusedSimpArgs false
theorem copied_same (d : List S51) (h : d.length ≤ 1000) : waterhourref04_copied.f d = some d := by
  unfold waterhourref04_copied.f
  simp only [Option.bind_some, List.length_nil, List.nil_append]
  rw [if_pos (by omega)]
theorem rClosed_l0 {d : List S51} (hv : vd d = true) (hc : (clashOf d).2.2 = false) : ∀ (m k n : Nat), d.length = n + m → m + 2100 ≤ k → waterhourref04_Closed.l0 k d (closedTo d n ++ d.drop n) n = some (closedOf d, 0)
  | 0, k, n, hn, hk => by
    obtain ⟨k, rfl⟩ : ∃ m, k = m + 1 := ⟨k - 1, by omega⟩
    simp only [waterhourref04_Closed.l0]
    obtain rfl : d.length = n := by omega
    rw [if_neg (by omega), List.drop_of_length_le (Nat.le_refl _), List.append_nil]
    rfl
  | m + 1, k, n, hn, hk => by
    obtain ⟨k, rfl⟩ : ∃ m, k = m + 1 := ⟨k - 1, by omega⟩
    have hl32 := (vd_iff.1 hv).2.1
    have hp : n < d.length := by omega
    have ih := rClosed_l0 hv hc m k (n + 1) (by omega) (by omega)
    have hE : betweenErr d ((n : Int) - 1) (n : Int) = 0 := by rw [betweenErr_yes hv (by omega), hc]; rfl
    have hset : (closedTo d n ++ d.drop n).set n (⟨⟨(betweenOf d ((n : Int) - 1) (n : Int)).1, (betweenOf d ((n : Int) - 1) (n : Int)).2⟩, ⟨(timeOf d (n : Int)).1, (timeOf d (n : Int)).2⟩⟩ : S51) = closedTo d (n + 1) ++ d.drop (n + 1) := by
      rw [closedTo_succ, rd_drop d n hp, List.set_append_right _ _ (by rw [closedTo_length]; exact Nat.le_refl _), closedTo_length, Nat.sub_self, List.set_cons_zero, List.append_assoc]
      rfl
    simp only [waterhourref04_Closed.l0]
    rw [if_pos (by omega), show wrap64 ((n : Int) - 1) = (n : Int) - 1 from by unfold wrap64; omega, rBetween_eq d _ _ k (by omega), hE, rtime_eq hv (by omega) (by omega) k (by omega), show wrap64 ((n : Int) + 1) = ((n + 1 : Nat) : Int) from by unfold wrap64; omega]
    simp only [Option.bind_some, if_true]
    rw [if_pos (by omega), if_pos (by rw [List.length_append, closedTo_length, List.length_drop]; omega), Int.toNat_natCast, hset]
    exact ih
theorem rClosed_eq (d : List S51) (k : Nat) (hk : 2200 ≤ k) : waterhourref04_Closed.f k d = some (if readyE d = 0 then closedOf d else [], readyE d) := by
  unfold waterhourref04_Closed.f
  rw [rfirst_E d k (by omega)]
  simp only [Option.bind_some]
  by_cases h : readyE d = 0
  · obtain ⟨hv, hc⟩ := readyE_zero h
    have hl32 := (vd_iff.1 hv).2.1
    rw [if_pos h, if_pos h, h, copied_same d (by omega)]
    exact rClosed_l0 hv hc d.length k 0 (by omega) (by omega)
  · rw [if_neg h, if_neg h]
theorem narrowed_ref {d : List S51} (hv : vd d = true) {p : Nat} (hp : p < d.length) (x0 x1 : Int) : narrowedAt (rd_T51 d (p : Int)) x0 x1 = if (rd_T51 d (p : Int)).f1.f0 ≤ (rd_T51 d (p : Int)).f1.f1 then (max x0 (rd_T51 d (p : Int)).f1.f0, min x1 (rd_T51 d (p : Int)).f1.f1) else (x0, x1) := by
  have hx := evOk_iff.1 (rd_ok hv hp)
  unfold narrowedAt
  by_cases h : (rd_T51 d (p : Int)).f1.f0 = 1 ∧ (rd_T51 d (p : Int)).f1.f1 = 0
  · rw [if_pos h, if_neg (by omega)]
  · rw [if_neg h, if_pos (by omega), mx_max, mn_min]
    exact Prod.ext (by simp only; omega) (by simp only; omega)
theorem rNarrowed_eq (d : List S51) (i x0 x1 : Int) (k : Nat) (hk : 2200 ≤ k) : waterhourref04_Narrowed.f k d i x0 x1 = some (if knownErr d i x0 x1 = 0 then withAt d i (narrowedAt (rd_T51 d i) x0 x1) else [], knownErr d i x0 x1) := by
  obtain ⟨k, rfl⟩ : ∃ m, k = m + 1 := ⟨k - 1, by omega⟩
  unfold waterhourref04_Narrowed.f
  rw [Valid_eq d (k + 1) (by omega), Event_eq, minutes_eq]
  by_cases hv : vd d = true
  · rw [hv]
    simp only [Option.bind_some, if_true, decide_eq_true_eq]
    by_cases hi : 0 ≤ i ∧ i < d.length
    · have hl32 := (vd_iff.1 hv).2.1
      rw [if_pos hi]
      by_cases hx : 0 ≤ x0 ∧ x0 ≤ x1 ∧ x1 ≤ 16777216
      · obtain ⟨p, rfl⟩ := Int.eq_ofNat_of_zero_le hi.1
        have hn := narrowed_ref hv (p := p) (by omega) x0 x1
        rw [decide_eq_true hx]
        simp only [waterhourref04_Narrowed.j0]
        rw [if_neg (by decide), copied_same d (by omega)]
        simp only [Option.bind_some, waterhourref04_Known.f, decide_eq_true_eq]
        rw [if_pos hi.1, if_pos hi.2, mx_max, mn_min]
        by_cases hk' : (rd_T51 d (p : Int)).f1.f0 ≤ (rd_T51 d (p : Int)).f1.f1
        · rw [if_pos hk'] at hn
          rw [if_pos hk']
          by_cases hg : max x0 (rd_T51 d (p : Int)).f1.f0 > min x1 (rd_T51 d (p : Int)).f1.f1
          · have hE : knownErr d (p : Int) x0 x1 = 4 := by unfold knownErr; rw [if_pos hv, if_pos hi, if_pos hx, hn, if_pos hg]
            rw [if_pos hg, hE, if_neg (by decide)]
          · have hE : knownErr d (p : Int) x0 x1 = 0 := by unfold knownErr; rw [if_pos hv, if_pos hi, if_pos hx, hn, if_neg hg]
            rw [if_neg hg, if_pos hi.2, hE, if_pos rfl, hn]
            rfl
        · rw [if_neg hk'] at hn
          have hE : knownErr d (p : Int) x0 x1 = 0 := by unfold knownErr; rw [if_pos hv, if_pos hi, if_pos hx, hn, if_neg (by simp only; omega)]
          rw [if_neg hk', if_neg (by omega), if_pos hi.2, hE, if_pos rfl, hn]
          rfl
      · have hE : knownErr d i x0 x1 = 1 := by unfold knownErr; rw [if_pos hv, if_pos hi, if_neg hx]
        rw [decide_eq_false hx, hE, if_neg (by decide)]
        simp only [waterhourref04_Narrowed.j0]
        rw [if_pos (by decide)]
    · have hE : knownErr d i x0 x1 = 1 := by unfold knownErr; rw [if_pos hv, if_neg hi]
      rw [if_neg hi, hE, if_neg (by decide)]
      simp only [waterhourref04_Narrowed.j0]
      rw [if_pos (by decide)]
  · have hE : knownErr d i x0 x1 = 40 := by unfold knownErr; rw [if_neg hv]
    rw [hE, if_neg (by decide)]
    simp [hv]
theorem without_step {e : List S51} {i p : Nat} (hp : p < e.length) : (e.take (p + 1)).eraseIdx i = if p = i then (e.take p).eraseIdx i else (e.take p).eraseIdx i ++ [e[p]] := by
  have hl : (e.take p).length = p := by rw [List.length_take]; omega
  rw [List.take_succ_eq_append_getElem hp]
  by_cases h : p = i
  · subst h
    have hr : (e.take p).eraseIdx p = e.take p := List.eraseIdx_of_length_le (by omega)
    rw [if_pos rfl, hr, List.eraseIdx_append_of_length_le (by omega), hl, Nat.sub_self, List.eraseIdx_cons_zero, List.append_nil]
  · rw [if_neg h]
    by_cases hlt : i < p
    · rw [List.eraseIdx_append_of_lt_length (by omega)]
    · rw [List.eraseIdx_append_of_length_le (by omega), hl, List.eraseIdx_of_length_le (l := e.take p) (by omega)]
      obtain ⟨q, hq⟩ : ∃ q, i - p = q + 1 := ⟨i - p - 1, by omega⟩
      rw [hq, List.eraseIdx_cons_succ, List.eraseIdx_nil]
theorem summed_length (d : List S51) (i : Nat) : (summed d i).length = d.length := by
  unfold summed
  split
  · rw [List.length_set]
  · rfl
theorem rd_summed {d : List S51} {i p : Nat} (hp : p < d.length) : rd_T51 (summed d i) (p : Int) = if p = i + 1 then ⟨⟨(sumBehind d i).1, (sumBehind d i).2⟩, ⟨(rd_T51 d (p : Int)).f1.f0, (rd_T51 d (p : Int)).f1.f1⟩⟩ else rd_T51 d (p : Int) := by
  unfold summed
  by_cases h : i + 1 < d.length
  · rw [if_pos h]
    by_cases e : p = i + 1
    · subst e
      rw [if_pos rfl, rd_set _ h]
    · rw [if_neg e, rd_set_ne _ (by omega)]
  · rw [if_neg h, if_neg (by omega)]
theorem rWithout_l0 {d : List S51} (hv : vd d = true) {i : Nat} (hi : i < d.length) : ∀ (m k j : Nat), d.length = j + m → m < k → (i + 1 < j → (sumBehind d i).2 ≤ 524288) →
    waterhourref04_Without.l0 k d i ((((summed d i).take j).eraseIdx i)) j = some (if withoutErr d i = 2 then ([], 2) else ((summed d i).eraseIdx i, 0))
  | 0, k, j, hj, hk, hs => by
    obtain ⟨k, rfl⟩ : ∃ m, k = m + 1 := ⟨k - 1, by omega⟩
    simp only [waterhourref04_Without.l0]
    rw [if_neg (by omega), List.take_of_length_le (by rw [summed_length]; omega)]
    have hne : withoutErr d i ≠ 2 := by
      unfold withoutErr
      rw [if_pos hv, if_pos ⟨by omega, by omega⟩]
      by_cases h1 : d.length = 1
      · rw [if_pos h1]; decide
      · rw [if_neg h1, Int.toNat_natCast]
        by_cases h2 : i + 1 < d.length
        · have := hs (by omega)
          rw [if_pos h2, if_neg (by omega)]; decide
        · rw [if_neg h2]; decide
    rw [if_neg hne]
  | m + 1, k, j, hj, hk, hs => by
    obtain ⟨k, rfl⟩ : ∃ m, k = m + 1 := ⟨k - 1, by omega⟩
    have hl32 := (vd_iff.1 hv).2.1
    have hjl : j < d.length := by omega
    have hx := evOk_iff.1 (rd_ok hv hjl)
    have hxi := evOk_iff.1 (rd_ok hv hi)
    have hsl := summed_length d i
    have hst := without_step (e := summed d i) (i := i) (p := j) (by omega)
    have hlen : (((summed d i).take j).eraseIdx i).length ≤ 32 := Nat.le_trans (List.length_eraseIdx_le _ _) (by rw [List.length_take]; omega)
    rw [← rd_at (d := summed d i) (n := j) (by omega), rd_summed hjl] at hst
    simp only [waterhourref04_Without.l0]
    rw [if_pos (by omega), if_pos (by omega), show wrap64 ((j : Int) + 1) = ((j + 1 : Nat) : Int) from by unfold wrap64; omega, show wrap64 ((i : Int) + 1) = ((i + 1 : Nat) : Int) from by unfold wrap64; omega]
    by_cases h1 : (j : Int) = (i : Int)
    · have e : j = i := by omega
      rw [if_pos h1]
      rw [if_pos e] at hst
      rw [← hst]
      exact rWithout_l0 hv hi m k (j + 1) (by omega) (by omega) (fun h => by omega)
    · rw [if_neg h1]
      rw [if_neg (show ¬ j = i by omega)] at hst
      by_cases h2 : (j : Int) = ((i + 1 : Nat) : Int)
      · have e : j = i + 1 := by omega
        rw [if_pos h2, if_pos (by omega), if_pos (by omega)]
        rw [if_pos e] at hst
        have es : sumBehind d i = ((rd_T51 d (j : Int)).f0.f0 + (rd_T51 d (i : Int)).f0.f0, (rd_T51 d (j : Int)).f0.f1 + (rd_T51 d (i : Int)).f0.f1) := by unfold sumBehind; rw [e]
        rw [show wrap64 ((rd_T51 d (j : Int)).f0.f1 + (rd_T51 d (i : Int)).f0.f1) = (rd_T51 d (j : Int)).f0.f1 + (rd_T51 d (i : Int)).f0.f1 from by unfold wrap64; omega, show wrap64 ((rd_T51 d (j : Int)).f0.f0 + (rd_T51 d (i : Int)).f0.f0) = (rd_T51 d (j : Int)).f0.f0 + (rd_T51 d (i : Int)).f0.f0 from by unfold wrap64; omega]
        by_cases h3 : (rd_T51 d (j : Int)).f0.f1 + (rd_T51 d (i : Int)).f0.f1 > 524288
        · have hE : withoutErr d i = 2 := by
            unfold withoutErr
            rw [if_pos hv, if_pos ⟨by omega, by omega⟩, if_neg (by omega), Int.toNat_natCast, if_pos (by omega), if_pos (by rw [es]; exact h3)]
          rw [if_pos h3, if_pos hE]
        · rw [if_neg h3, if_pos (by omega)]
          rw [es] at hst
          rw [← hst]
          exact rWithout_l0 hv hi m k (j + 1) (by omega) (by omega) (fun _ => by rw [es]; simp only; omega)
      · rw [if_neg h2, if_neg (by omega), if_pos (by omega)]
        rw [if_neg (show ¬ j = i + 1 by omega)] at hst
        have := rWithout_l0 hv hi m k (j + 1) (by omega) (by omega) (fun h => hs (by omega))
        rw [hst] at this
        exact this
theorem rWithout_eq (d : List S51) (i : Int) (k : Nat) (hk : 2200 ≤ k) : waterhourref04_Without.f k d i = some (if withoutErr d i = 0 then (summed d i.toNat).eraseIdx i.toNat else [], withoutErr d i) := by
  obtain ⟨k, rfl⟩ : ∃ m, k = m + 1 := ⟨k - 1, by omega⟩
  unfold waterhourref04_Without.f
  rw [Valid_eq d (k + 1) (by omega)]
  by_cases hv : vd d = true
  · simp only [if_pos hv, Option.bind_some, Event_eq, decide_eq_true_eq, waterhourref04_Without.j0]
    have hl32 := (vd_iff.1 hv).2.1
    by_cases hi : 0 ≤ i ∧ i < d.length
    · rw [if_pos hi]
      by_cases h1 : d.length = 1
      · have hE : withoutErr d i = 1 := by unfold withoutErr; rw [if_pos hv, if_pos hi, if_pos h1]
        rw [show ((d.length : Int) == 1) = true from beq_iff_eq.2 (by omega), hE]
        rfl
      · obtain ⟨p, rfl⟩ := Int.eq_ofNat_of_zero_le hi.1
        rw [show ((d.length : Int) == 1) = false from beq_eq_false_iff_ne.2 (by omega), if_neg (by decide)]
        have h0 := rWithout_l0 hv (i := p) (by omega) d.length k 0 (by omega) (by omega) (fun h => by omega)
        have e0 : ((summed d p).take 0).eraseIdx p = [] := by simp
        rw [e0] at h0
        rw [show ((0 : Nat) : Int) = 0 from rfl] at h0
        rw [h0, Int.toNat_natCast]
        have hcs : withoutErr d p = 2 ∨ withoutErr d p = 0 := by
          unfold withoutErr
          rw [if_pos hv, if_pos hi, if_neg h1]
          split
          · split
            · exact .inl rfl
            · exact .inr rfl
          · exact .inr rfl
        rcases hcs with e | e <;> rw [e] <;> rfl
    · have hE : withoutErr d i = 1 := by unfold withoutErr; rw [if_pos hv, if_neg hi]
      rw [if_neg hi, hE]
      rfl
  · have hE : withoutErr d i = 40 := by unfold withoutErr; rw [if_neg hv]
    rw [hE]
    simp [hv]
theorem rJoined_eq (a b : List S51) (k : Nat) (hk : 2200 ≤ k) : waterhourref04_Joined.f k a b = some (if joinedErr a b = 0 then a ++ b else [], joinedErr a b) := by
  obtain ⟨k, rfl⟩ : ∃ m, k = m + 1 := ⟨k - 1, by omega⟩
  unfold waterhourref04_Joined.f
  rw [Valid_eq a (k + 1) (by omega), Valid_eq b (k + 1) (by omega)]
  simp only [Option.bind_some]
  by_cases ha : vd a = true
  · rw [if_pos ha]
    by_cases hb : vd b = true
    · have h1 := (vd_iff.1 ha)
      have h2 := (vd_iff.1 hb)
      rw [hb]
      simp only [waterhourref04_Joined.j0]
      rw [if_neg (by decide), show wrap64 ((a.length : Int) + (b.length : Int)) = (a.length : Int) + (b.length : Int) from by unfold wrap64; omega]
      by_cases h : 32 < a.length + b.length
      · rw [joined_many ha hb h, if_pos (by omega), if_neg (by decide)]
      · rw [joined_ok ha hb h, if_neg (by omega), if_pos rfl, copied_same a (by omega)]
        simp only [Option.bind_some]
        rw [if_pos (by omega)]
    · rw [Bool.eq_false_iff.2 hb, joined_no2 ha hb, if_neg (by decide)]
      simp only [waterhourref04_Joined.j0]
      rw [if_pos (by decide)]
  · rw [if_neg ha, joined_no1 ha, if_neg (by decide)]
    simp only [waterhourref04_Joined.j0, if_true]
end Go.Proofs.YtgiihjcpgjpkcaaDoor.Q
end
section
namespace Go.Proofs.YtgiihjcpgjpkcaaDoor.Q
open Go.RowKit Go.Proofs.YtgiihjcpgjpkcaaDoorW.PrintWords Go.Proofs.YtgiihjcpgjpkcaaDoorW.PrintLast Go.Proofs.YtgiihjcpgjpkcaaDoorW.PrintMore
set_option linter.unusedVariables false
set_option linter.unusedSimpArgs false
theorem short_if {e : Int} {l : List S51} (h : e = 0 → l.length ≤ 1000) : (if e = 0 then l else []).length ≤ 1000 := by
  split
  · rename_i q; exact h q
  · simp
theorem days_j3 (a b : List S51) (k : Nat) (hk : 2200 ≤ k) : waterhourlaw04_RefillDays.j3 (k + 1) a b false = some true := by
  simp only [waterhourlaw04_RefillDays.j3]
  have hs : (if joinedErr a b = 0 then a ++ b else []).length ≤ 1000 := short_if fun h => by
    unfold joinedErr at h
    by_cases ha : vd a = true
    · by_cases hb : vd b = true
      · have h1 := (vd_iff.1 ha).2.1
        have h2 := (vd_iff.1 hb).2.1
        rw [List.length_append]; omega
      · rw [if_pos ha, if_neg hb] at h; omega
    · rw [if_neg ha] at h; omega
  rw [if_neg (by decide), pJoined_eq a b k (by omega), rJoined_eq a b k hk]
  simp only [Option.bind_some]
  rw [Same_self _ hs k (by omega)]
  simp only [Option.bind_some, if_true, beq_self_eq_true]
theorem days_j2 (a b : List S51) (i : Int) (k : Nat) (hk : 2201 ≤ k) : waterhourlaw04_RefillDays.j2 (k + 1) a b i false = some true := by
  obtain ⟨k, rfl⟩ : ∃ m, k = m + 1 := ⟨k - 1, by omega⟩
  simp only [waterhourlaw04_RefillDays.j2, refill_Without.f]
  have hs : (if withoutErr a i = 0 then (summed a i.toNat).eraseIdx i.toNat else []).length ≤ 1000 := short_if fun h => by
    unfold withoutErr at h
    by_cases ha : vd a = true
    · have h1 := (vd_iff.1 ha).2.1
      exact Nat.le_trans (List.length_eraseIdx_le _ _) (by rw [summed_length]; omega)
    · rw [if_neg ha] at h; omega
  rw [if_neg (by decide), rWithout_eq a i (k + 1) (by omega)]
  simp only [Option.bind_some]
  rw [Same_self _ hs (k + 1) (by omega)]
  simp only [Option.bind_some, if_true, bne_self_eq_false]
  exact days_j3 a b k (by omega)
theorem days_j1 (a b : List S51) (i x0 x1 : Int) (k : Nat) (hk : 2202 ≤ k) : waterhourlaw04_RefillDays.j1 (k + 1) a b i false x0 x1 = some true := by
  obtain ⟨k, rfl⟩ : ∃ m, k = m + 1 := ⟨k - 1, by omega⟩
  simp only [waterhourlaw04_RefillDays.j1, refill_Known.f]
  have hs : (if knownErr a i x0 x1 = 0 then withAt a i (narrowedAt (rd_T51 a i) x0 x1) else []).length ≤ 1000 := short_if fun h => by
    have h1 := (vd_iff.1 (knownErr_zero h).1).2.1
    rw [withAt_length]; omega
  rw [if_neg (by decide), rNarrowed_eq a i x0 x1 (k + 1) (by omega)]
  simp only [Option.bind_some]
  rw [Same_self _ hs (k + 1) (by omega)]
  simp only [Option.bind_some, if_true, bne_self_eq_false]
  exact days_j2 a b i k (by omega)
theorem days_j0 (a b : List S51) (i x0 x1 : Int) (c : Bool) (k : Nat) (hk : 2203 ≤ k) : waterhourlaw04_RefillDays.j0 (k + 1) a b i c x0 x1 = some true := by
  obtain ⟨k, rfl⟩ : ∃ m, k = m + 1 := ⟨k - 1, by omega⟩
  simp only [waterhourlaw04_RefillDays.j0]
  cases c with
  | true => rfl
  | false =>
    have hs : (if readyE a = 0 then closedOf a else []).length ≤ 1000 := short_if fun h => by
      have h1 := (vd_iff.1 (readyE_zero h).1).2.1
      rw [closedOf_length]; omega
    rw [if_neg (by decide), pClosed_eq a (k + 1) (by omega), rClosed_eq a (k + 1) (by omega)]
    simp only [Option.bind_some]
    rw [Same_self _ hs (k + 1) (by omega)]
    simp only [Option.bind_some, if_true, bne_self_eq_false]
    exact days_j1 a b i x0 x1 k (by omega)
theorem law_Days (a b : List S51) (i x0 x1 : Int) : waterhourlaw04_RefillDays.f 3000 a b i x0 x1 = some true := by
  unfold waterhourlaw04_RefillDays.f law_sane.f
  rw [few_nil a 3000 (by omega), few_nil b 3000 (by omega)]
  simp only [Option.bind_some, if_true]
  have j : ∀ c : Bool, waterhourlaw04_RefillDays.j0 3000 a b i c x0 x1 = some true := fun c => days_j0 a b i x0 x1 c 2999 (by omega)
  rw [j, j]
  split <;> rfl
end Go.Proofs.YtgiihjcpgjpkcaaDoor.Q
end
