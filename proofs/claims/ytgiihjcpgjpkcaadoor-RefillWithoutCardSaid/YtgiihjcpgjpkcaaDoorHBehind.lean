/- A day without an event, and one day behind another one: what they allow; no program in sight. -/
import Derived.Test.YtgiihjcpgjpkcaaDoorHChain
import Derived.Test.YtgiihjcpgjpkcaaDoorHCatD
import Derived.Test.YtgiihjcpgjpkcaaDoorHUpd
import Derived.Test.YtgiihjcpgjpkcaaDoorHWithout
namespace Go.Proofs.YtgiihjcpgjpkcaaDoor.Q
open Go.RowKit Go.Proofs.YtgiihjcpgjpkcaaDoorW.PrintWords Go.Proofs.YtgiihjcpgjpkcaaDoorW.PrintLast Go.Proofs.YtgiihjcpgjpkcaaDoorW.PrintMore
set_option linter.unusedVariables false
set_option linter.unusedSimpArgs false

theorem ok_iff {d : List S51} {l : List Int} {k : Nat} : okAt d l k = true ↔ 0 ≤ rd l (k : Int) ∧ rd l (k : Int) ≤ 16777216 ∧ prevAt l k + (rd_T51 d (k : Int)).f0.f0 ≤ rd l (k : Int) ∧ rd l (k : Int) ≤ prevAt l k + (rd_T51 d (k : Int)).f0.f1 ∧
    (((rd_T51 d (k : Int)).f1.f0 = 1 ∧ (rd_T51 d (k : Int)).f1.f1 = 0) ∨ ((rd_T51 d (k : Int)).f1.f0 ≤ rd l (k : Int) ∧ rd l (k : Int) ≤ (rd_T51 d (k : Int)).f1.f1)) := by unfold okAt; exact decide_eq_true_iff
/-- The minutes so far are not beyond what the events can come to. -/
theorem prev_most {d : List S51} (hv : vd d = true) {l : List Int} : ∀ k : Nat, k ≤ d.length → (∀ j, j < k → okAt d l j = true) → prevAt l k ≤ 524288 * k
  | 0, _, _ => by unfold prevAt; simp
  | k + 1, hk, h => by
    have ih := prev_most hv k (by omega) (fun j hj => h j (by omega))
    have hx := evOk_iff.1 (rd_ok hv (show k < d.length by omega))
    have := ok_iff.1 (h k (by omega))
    rw [prev_succ]
    omega
theorem rd_app_l {l m : List Int} {j : Nat} (h : j < l.length) : rd (l ++ m) (j : Int) = rd l (j : Int) := by
  unfold rd
  rw [Int.toNat_natCast, List.getD_eq_getElem?_getD, List.getD_eq_getElem?_getD, List.getElem?_append_left h]
theorem rd_app_r {l m : List Int} {j : Nat} (h : l.length ≤ j) : rd (l ++ m) (j : Int) = rd m ((j - l.length : Nat) : Int) := by
  unfold rd
  rw [Int.toNat_natCast, Int.toNat_natCast, List.getD_eq_getElem?_getD, List.getD_eq_getElem?_getD, List.getElem?_append_right h]
theorem rd_take_i {l : List Int} {n j : Nat} (h : j < n) : rd (l.take n) (j : Int) = rd l (j : Int) := by
  unfold rd
  rw [Int.toNat_natCast, List.getD_eq_getElem?_getD, List.getD_eq_getElem?_getD, List.getElem?_take_of_lt h]
theorem rd_drop_i {l : List Int} {n j : Nat} : rd (l.drop n) (j : Int) = rd l ((n + j : Nat) : Int) := by
  unfold rd
  rw [Int.toNat_natCast, Int.toNat_natCast, List.getD_eq_getElem?_getD, List.getD_eq_getElem?_getD, List.getElem?_drop]
/-- A list without an element. -/
theorem rd_cut {l : List Int} {p j : Nat} (hp : p < l.length) : rd (l.take p ++ l.drop (p + 1)) (j : Int) = if j < p then rd l (j : Int) else rd l ((j + 1 : Nat) : Int) := by
  have hl : (l.take p).length = p := by rw [List.length_take]; omega
  by_cases h : j < p
  · rw [if_pos h, rd_app_l (by omega), rd_take_i h]
  · rw [if_neg h, rd_app_r (by omega), hl, rd_drop_i, show p + 1 + (j - p) = j + 1 from by omega]
/-- A list with one more element. -/
theorem rd_put {l : List Int} {p j : Nat} {v : Int} (hp : p ≤ l.length) : rd (l.take p ++ ([v] ++ l.drop p)) (j : Int) = if j < p then rd l (j : Int) else if j = p then v else rd l ((j - 1 : Nat) : Int) := by
  have hl : (l.take p).length = p := by rw [List.length_take]; omega
  by_cases h : j < p
  · rw [if_pos h, rd_app_l (by omega), rd_take_i h]
  · rw [if_neg h, rd_app_r (by omega), hl]
    by_cases e : j = p
    · subst e
      rw [if_pos rfl, Nat.sub_self]
      rfl
    · obtain ⟨q, hq⟩ : ∃ q, j - p = q + 1 := ⟨j - p - 1, by omega⟩
      rw [if_neg e, hq, rd_app_r (by simp), rd_drop_i]
      congr 1
      simp only [List.length_cons, List.length_nil]
      omega
theorem prev_def (l : List Int) (j : Nat) : prevAt l j = if j = 0 then 0 else rd l ((j - 1 : Nat) : Int) := rfl
/-- The day without the event p. -/
def cutDay (d : List S51) (p : Nat) : List S51 := (summed d p).eraseIdx p
theorem sum_len (d : List S51) (i : Nat) : (summed d i).length = d.length := by
  unfold summed
  split
  · rw [List.length_set]
  · rfl
theorem cut_len {d : List S51} {p : Nat} (hp : p < d.length) : (cutDay d p).length = d.length - 1 := by
  unfold cutDay
  rw [List.length_eraseIdx_of_lt (by rw [sum_len]; exact hp), sum_len]
theorem rd_sum {d : List S51} {i p : Nat} (hp : p < d.length) : rd_T51 (summed d i) (p : Int) = if p = i + 1 then ⟨⟨(sumBehind d i).1, (sumBehind d i).2⟩, ⟨(rd_T51 d (p : Int)).f1.f0, (rd_T51 d (p : Int)).f1.f1⟩⟩ else rd_T51 d (p : Int) := by
  unfold summed
  by_cases h : i + 1 < d.length
  · rw [if_pos h]
    by_cases e : p = i + 1
    · subst e
      rw [if_pos rfl, rd_set _ h]
    · rw [if_neg e, rd_set_ne _ (by omega)]
  · rw [if_neg h, if_neg (by omega)]
theorem rd_erase {e : List S51} {p j : Nat} : rd_T51 (e.eraseIdx p) (j : Int) = if j < p then rd_T51 e (j : Int) else rd_T51 e ((j + 1 : Nat) : Int) := by
  unfold rd_T51
  rw [Int.toNat_natCast, Int.toNat_natCast, List.getD_eq_getElem?_getD, List.getD_eq_getElem?_getD, List.getD_eq_getElem?_getD, List.getElem?_eraseIdx]
  split <;> rfl
theorem rd_cutDay {d : List S51} {p j : Nat} (hj : j < d.length - 1) : rd_T51 (cutDay d p) (j : Int) =
    if j < p then rd_T51 d (j : Int) else if j = p then ⟨⟨(rd_T51 d ((p + 1 : Nat) : Int)).f0.f0 + (rd_T51 d (p : Int)).f0.f0, (rd_T51 d ((p + 1 : Nat) : Int)).f0.f1 + (rd_T51 d (p : Int)).f0.f1⟩, (rd_T51 d ((p + 1 : Nat) : Int)).f1⟩ else rd_T51 d ((j + 1 : Nat) : Int) := by
  unfold cutDay
  rw [rd_erase]
  by_cases h : j < p
  · rw [if_pos h, if_pos h, rd_sum (by omega), if_neg (by omega)]
  · rw [if_neg h, if_neg h, rd_sum (by omega)]
    by_cases e : j = p
    · subst e
      rw [if_pos rfl, if_pos rfl]
      rfl
    · rw [if_neg (by omega), if_neg e]
theorem without_ok {d : List S51} {i : Int} (h : withoutErr d i = 0) : vd d = true ∧ (0 ≤ i ∧ i < d.length) ∧ 2 ≤ d.length ∧ (i.toNat + 1 < d.length → (rd_T51 d ((i.toNat + 1 : Nat) : Int)).f0.f1 + (rd_T51 d (i.toNat : Int)).f0.f1 ≤ 524288) := by
  unfold withoutErr at h
  by_cases hv : vd d = true
  · have h1 := (vd_iff.1 hv).1
    rw [if_pos hv] at h
    by_cases hi : 0 ≤ i ∧ i < d.length
    · rw [if_pos hi] at h
      by_cases hl : d.length = 1
      · rw [if_pos hl] at h; omega
      · rw [if_neg hl] at h
        refine ⟨hv, hi, by omega, fun hq => ?_⟩
        rw [if_pos hq] at h
        by_cases hs : (sumBehind d i.toNat).2 > 524288
        · rw [if_pos hs] at h; omega
        · unfold sumBehind at hs
          simp only at hs
          omega
    · rw [if_neg hi] at h; omega
  · rw [if_neg hv] at h; omega
theorem mem_rd {d : List S51} {e : S51} (h : e ∈ d) : ∃ j : Nat, j < d.length ∧ rd_T51 d (j : Int) = e := by
  obtain ⟨j, hj, rfl⟩ := List.getElem_of_mem h
  exact ⟨j, hj, rd_at hj⟩
theorem cut_vd {d : List S51} {p : Nat} (hv : vd d = true) (hp : p < d.length) (h2 : 2 ≤ d.length) (hs : p + 1 < d.length → (rd_T51 d ((p + 1 : Nat) : Int)).f0.f1 + (rd_T51 d (p : Int)).f0.f1 ≤ 524288) : vd (cutDay d p) = true := by
  have hl := (vd_iff.1 hv).2.1
  refine vd_iff.2 ⟨by rw [cut_len hp]; omega, by rw [cut_len hp]; omega, fun e he => ?_⟩
  obtain ⟨j, hj, rfl⟩ := mem_rd he
  rw [cut_len hp] at hj
  rw [rd_cutDay hj]
  by_cases h : j < p
  · rw [if_pos h]; exact rd_ok hv (by omega)
  · rw [if_neg h]
    by_cases e : j = p
    · subst e
      rw [if_pos rfl]
      have x1 := evOk_iff.1 (rd_ok hv hp)
      have x2 := evOk_iff.1 (rd_ok hv (show j + 1 < d.length by omega))
      have := hs (by omega)
      refine evOk_iff.2 ?_
      simp only
      omega
    · rw [if_neg e]; exact rd_ok hv (by omega)
theorem cut_check {d : List S51} {p : Nat} (hv : vd d = true) (hp : p < d.length) (h2 : 2 ≤ d.length) (hs : p + 1 < d.length → (rd_T51 d ((p + 1 : Nat) : Int)).f0.f1 + (rd_T51 d (p : Int)).f0.f1 ≤ 524288) {l : List Int} (h : checkOf d l = 0) : checkOf (cutDay d p) (l.take p ++ l.drop (p + 1)) = 0 := by
  obtain ⟨_, hl, hall⟩ := check_zero.1 h
  have hk := allOk_iff.1 hall
  refine check_zero.2 ⟨cut_vd hv hp h2 hs, by rw [cut_len hp, List.length_append, List.length_take, List.length_drop]; omega, allOk_iff.2 fun j hj => ?_⟩
  rw [cut_len hp] at hj
  refine ok_iff.2 ?_
  rw [prev_def, rd_cut (by omega), rd_cut (by omega), rd_cutDay hj]
  by_cases h1 : j < p
  · have := ok_iff.1 (hk j (by omega))
    rw [prev_def] at this
    rw [if_pos h1, if_pos h1, if_pos (show j - 1 < p by omega)]
    exact this
  · by_cases e : j = p
    · subst e
      have a1 := ok_iff.1 (hk j (by omega))
      have a2 := ok_iff.1 (hk (j + 1) (by omega))
      rw [prev_def] at a1
      rw [prev_succ] at a2
      rw [if_neg h1, if_neg h1, if_pos rfl]
      simp only
      by_cases h0 : j = 0
      · rw [if_pos h0] at a1 ⊢
        refine ⟨a2.1, a2.2.1, by omega, by omega, a2.2.2.2.2⟩
      · rw [if_neg h0] at a1 ⊢
        rw [if_pos (show j - 1 < j by omega)]
        refine ⟨a2.1, a2.2.1, by omega, by omega, a2.2.2.2.2⟩
    · have a2 := ok_iff.1 (hk (j + 1) (by omega))
      rw [prev_succ] at a2
      rw [if_neg h1, if_neg h1, if_neg e, if_neg (show ¬ j = 0 by omega), if_neg (show ¬ j - 1 < p by omega), show j - 1 + 1 = j from by omega]
      exact a2
/-- The earliest minute that the event can have between its neighbours. -/
def putMin (d : List S51) (p : Nat) (l : List Int) : Int :=
  if p < l.length then max ((rd_T51 d (p : Int)).f0.f0 + prevAt l p) (rd l (p : Int) - (rd_T51 d ((p + 1 : Nat) : Int)).f0.f1) else (rd_T51 d (p : Int)).f0.f0 + prevAt l p
theorem put_check {d : List S51} {p : Nat} (hv : vd d = true) (hp : p < d.length) (h2 : 2 ≤ d.length) (hs : p + 1 < d.length → (rd_T51 d ((p + 1 : Nat) : Int)).f0.f1 + (rd_T51 d (p : Int)).f0.f1 ≤ 524288) (hK : ¬ (rd_T51 d (p : Int)).f1.f0 ≤ (rd_T51 d (p : Int)).f1.f1) {l : List Int} (h : checkOf (cutDay d p) l = 0) :
    l.length = d.length - 1 ∧ (0 ≤ prevAt l p ∧ prevAt l p ≤ 16777216) ∧ (p < l.length → 0 ≤ rd l (p : Int) ∧ rd l (p : Int) ≤ 16777216) ∧ checkOf d (l.take p ++ ([putMin d p l] ++ l.drop p)) = 0 := by
  obtain ⟨hvw, hl, hall⟩ := check_zero.1 h
  have hk := allOk_iff.1 hall
  have h32 := (vd_iff.1 hv).2.1
  rw [cut_len hp] at hl hk
  have hmost := prev_most hvw p (by rw [cut_len hp]; omega) (fun j hj => hk j (by omega))
  have hrange := prev_range (d := cutDay d p) (l := l) (k := p) (fun j hj => hk j (by omega))
  have xp := evOk_iff.1 (rd_ok hv hp)
  have hun : (rd_T51 d (p : Int)).f1.f0 = 1 ∧ (rd_T51 d (p : Int)).f1.f1 = 0 := xp.2.2.2.resolve_left (fun q => hK q.2.1)
  have hnext : p < l.length → (prevAt l p + ((rd_T51 d ((p + 1 : Nat) : Int)).f0.f0 + (rd_T51 d (p : Int)).f0.f0) ≤ rd l (p : Int) ∧ rd l (p : Int) ≤ prevAt l p + ((rd_T51 d ((p + 1 : Nat) : Int)).f0.f1 + (rd_T51 d (p : Int)).f0.f1)) ∧ (0 ≤ rd l (p : Int) ∧ rd l (p : Int) ≤ 16777216) ∧
      (((rd_T51 d ((p + 1 : Nat) : Int)).f1.f0 = 1 ∧ (rd_T51 d ((p + 1 : Nat) : Int)).f1.f1 = 0) ∨ ((rd_T51 d ((p + 1 : Nat) : Int)).f1.f0 ≤ rd l (p : Int) ∧ rd l (p : Int) ≤ (rd_T51 d ((p + 1 : Nat) : Int)).f1.f1)) := fun hlt => by
    have := ok_iff.1 (hk p (by omega))
    rw [rd_cutDay (by omega), if_neg (by omega), if_pos rfl] at this
    simp only at this
    exact ⟨⟨this.2.2.1, this.2.2.2.1⟩, ⟨this.1, this.2.1⟩, this.2.2.2.2⟩
  refine ⟨hl, hrange, fun q => (hnext q).2.1, check_zero.2 ⟨hv, by simp only [List.length_append, List.length_take, List.length_drop, List.length_cons, List.length_nil]; omega, allOk_iff.2 fun j hj => ?_⟩⟩
  have hpm : putMin d p l = if p < l.length then max ((rd_T51 d (p : Int)).f0.f0 + prevAt l p) (rd l (p : Int) - (rd_T51 d ((p + 1 : Nat) : Int)).f0.f1) else (rd_T51 d (p : Int)).f0.f0 + prevAt l p := rfl
  refine ok_iff.2 ?_
  rw [prev_def, rd_put (by omega), rd_put (by omega)]
  by_cases h1 : j < p
  · have := ok_iff.1 (hk j (by omega))
    rw [rd_cutDay (by omega), if_pos h1, prev_def] at this
    rw [if_pos h1, if_pos (show j - 1 < p by omega)]
    exact this
  · rw [if_neg h1]
    by_cases e : j = p
    · subst e
      have hprev : (if j = 0 then (0 : Int) else if j - 1 < j then rd l ((j - 1 : Nat) : Int) else if j - 1 = j then putMin d j l else rd l ((j - 1 - 1 : Nat) : Int)) = prevAt l j := by
        rw [prev_def]
        by_cases h0 : j = 0
        · rw [if_pos h0, if_pos h0]
        · rw [if_neg h0, if_neg h0, if_pos (by omega)]
      rw [if_pos rfl, hprev]
      by_cases hlt : j < l.length
      · have hq := hnext hlt
        have x2 := evOk_iff.1 (rd_ok hv (show j + 1 < d.length by omega))
        rw [hpm, if_pos hlt]
        refine ⟨by omega, by omega, by omega, by omega, .inl hun⟩
      · rw [hpm, if_neg hlt]
        refine ⟨by omega, by omega, by omega, by omega, .inl hun⟩
    · rw [if_neg e, if_neg (show ¬ j = 0 by omega), if_neg (show ¬ j - 1 < p by omega)]
      by_cases e1 : j = p + 1
      · subst e1
        have hlt : p < l.length := by omega
        have hq := hnext hlt
        have x2 := evOk_iff.1 (rd_ok hv (show p + 1 < d.length by omega))
        rw [show p + 1 - 1 = p from by omega, if_pos rfl, hpm, if_pos hlt]
        refine ⟨hq.2.1.1, hq.2.1.2, by omega, by omega, hq.2.2⟩
      · have := ok_iff.1 (hk (j - 1) (by omega))
        rw [rd_cutDay (by omega), if_neg (by omega), if_neg (by omega), prev_def, if_neg (by omega), show j - 1 + 1 = j from by omega] at this
        rw [if_neg (show ¬ j - 1 = p by omega)]
        exact this

/-! ### one day behind another one -/
theorem rd_app_d {a b : List S51} {j : Nat} (h : j < a.length) : rd_T51 (a ++ b) (j : Int) = rd_T51 a (j : Int) := by
  unfold rd_T51
  rw [Int.toNat_natCast, List.getD_eq_getElem?_getD, List.getD_eq_getElem?_getD, List.getElem?_append_left h]
theorem rd_app_e {a b : List S51} {j : Nat} : rd_T51 (a ++ b) ((a.length + j : Nat) : Int) = rd_T51 b (j : Int) := by
  unfold rd_T51
  rw [Int.toNat_natCast, Int.toNat_natCast, List.getD_eq_getElem?_getD, List.getD_eq_getElem?_getD, List.getElem?_append_right (by omega), Nat.add_sub_cancel_left]
theorem app_vd {a b : List S51} (ha : vd a = true) (hb : vd b = true) (h : ¬ 32 < a.length + b.length) : vd (a ++ b) = true := by
  obtain ⟨a1, a2, a3⟩ := vd_iff.1 ha
  obtain ⟨b1, b2, b3⟩ := vd_iff.1 hb
  refine vd_iff.2 ⟨by rw [List.length_append]; omega, by rw [List.length_append]; omega, fun e he => ?_⟩
  rcases List.mem_append.1 he with q | q
  · exact a3 e q
  · exact b3 e q
/-- The first day's part of the list. -/
theorem first_part {a b : List S51} {l : List Int} (ha : vd a = true) (hl : a.length ≤ l.length) : checkOf a (l.take a.length) = 0 ↔ ∀ p, p < a.length → okAt (a ++ b) l p = true := by
  rw [check_zero, allOk_iff]
  have key : ∀ p, p < a.length → (okAt a (l.take a.length) p = true ↔ okAt (a ++ b) l p = true) := fun p hp => by
    rw [ok_iff, ok_iff, prev_def, prev_def, rd_app_d hp, rd_take_i hp]
    by_cases h0 : p = 0
    · rw [if_pos h0, if_pos h0]
    · rw [if_neg h0, if_neg h0, rd_take_i (by omega)]
  exact ⟨fun h p hp => (key p hp).1 (h.2.2 p hp), fun h => ⟨ha, by rw [List.length_take]; omega, fun p hp => (key p hp).2 (h p hp)⟩⟩
end Go.Proofs.YtgiihjcpgjpkcaaDoor.Q
