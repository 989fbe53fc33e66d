/- RefillAttained: the statement's own function answers true, at every day, indices and numbers; no program in sight. -/
import Derived.Test.YtgiihjcpgjpkcaaDoorHFacts
import Derived.Test.YtgiihjcpgjpkcaaDoorHRefV
import Derived.Test.YtgiihjcpgjpkcaaDoorHEqual
import Derived.Test.YtgiihjcpgjpkcaaDoorQWAttained
namespace Go.Proofs.YtgiihjcpgjpkcaaDoor.Q
open Go.RowKit Go.Proofs.YtgiihjcpgjpkcaaDoorW.PrintWords Go.Proofs.YtgiihjcpgjpkcaaDoorW.PrintLast Go.Proofs.YtgiihjcpgjpkcaaDoorW.PrintMore
set_option linter.unusedVariables false
set_option linter.unusedSimpArgs false

theorem rd_nat {l : List Int} {j : Nat} (h : j < l.length) : rd l (j : Int) = l[j] := by
  unfold rd
  rw [Int.toNat_natCast, List.getD_eq_getElem?_getD, List.getElem?_eq_getElem h]
  rfl
theorem attained_l0 {d : List S51} (hv : vd d = true) (hc : (clashOf d).2.2 = false) {a b : Int} (ha : 0 ≤ a) (hab : a < b) (hb : b < d.length) (ys : List Int) (hys : ∀ n ∈ ys, (betweenOf d a b).1 ≤ n ∧ n ≤ (betweenOf d a b).2) (hl : ys.length ≤ 100) :
    ∀ (m k j : Nat), ys.length = j + m → m + 2100 ≤ k → waterhourlaw04_RefillAttained.l0 k d a b ys ys.length j (timeOf d a).1 (timeOf d a).2 (timeOf d b).1 (timeOf d b).2 = some true
  | 0, k, j, hj, hk => by
    obtain ⟨k, rfl⟩ : ∃ m, k = m + 1 := ⟨k - 1, by omega⟩
    simp only [waterhourlaw04_RefillAttained.l0]
    rw [if_neg (by omega)]
  | m + 1, k, j, hj, hk => by
    obtain ⟨k, rfl⟩ : ∃ m, k = m + 1 := ⟨k - 1, by omega⟩
    have ih := attained_l0 hv hc ha hab hb ys hys hl m k (j + 1) (by omega) (by omega)
    have hn := hys (rd ys (j : Int)) (by rw [rd_nat (show j < ys.length by omega)]; exact List.getElem_mem _)
    simp only [waterhourlaw04_RefillAttained.l0]
    rw [if_pos (by omega), if_pos (by omega), if_pos (by omega)]
    generalize rd ys (j : Int) = n at *
    obtain ⟨h1, h2⟩ := hn
    have hd := had hv hc ha hab hb h1 h2
    have ra := time_range hv hc (i := a) ha (by omega)
    have rb := time_range hv hc (i := b) (by omega) hb
    have s1 := SL_bound hv a
    have s2 := SL_bound hv b
    rw [between_max] at h1 h2
    rw [timeB_of d ha] at h1 h2
    simp only at h1 h2
    rw [mx_max, wrap_small (x := (timeOf d b).1 - n) (by omega) (by omega)]
    generalize hu : max (timeOf d a).1 ((timeOf d b).1 - n) = u at *
    obtain ⟨k1, k2, k3, k4, k5, k6⟩ := hd
    have hlen := withAt_length d a (u, u)
    have hi' : 0 ≤ b ∧ b < (withAt d a (u, u)).length := ⟨by omega, by omega⟩
    have hyes := attain_yes k3 hi' ⟨k4, k5, k6⟩
    have hat := attained k3 hi' ⟨k4, k5, k6⟩
    have hck := (known_check k1 (endsTo false (withAt (withAt d a (u, u)) b (u + n, u + n)) (withAt d a (u, u)).length)).1 (by rw [k2]; exact hat.1)
    have eK : refill_Known.f d a u u = some (withAt d a (u, u), 0) := by
      unfold refill_Known.f
      rw [k1, if_pos rfl, k2]
    rw [eK]
    simp only [Option.bind_some, if_true]
    rw [wrap_small (x := u + n) (by omega) (by omega), pAttain_eq _ _ _ k (by omega), hyes]
    have hL : (endsTo false (withAt (withAt d a (u, u)) b (u + n, u + n)) (withAt d a (u, u)).length).length = d.length := by rw [endsTo_length, hlen]
    generalize endsTo false (withAt (withAt d a (u, u)) b (u + n, u + n)) (withAt d a (u, u)).length = L at *
    simp only [Option.bind_some, if_true, refill_CheckTimes.f]
    rw [hck.1, if_pos rfl, if_pos (by omega), if_pos (by omega), if_pos ha, if_pos (by omega), wrap_small (by omega) (by omega), if_pos (by omega), show wrap64 ((j : Int) + 1) = ((j + 1 : Nat) : Int) from by unfold wrap64; omega]
    exact ih
theorem attained_j3 {d : List S51} (hv : vd d = true) (hc : (clashOf d).2.2 = false) {a b : Int} (ha : 0 ≤ a) (hab : a < b) (hb : b < d.length) (many : Int) (k : Nat) (hk : 2500 ≤ k) : waterhourlaw04_RefillAttained.j3 (k + 1) d a b many false = some true := by
  obtain ⟨k, rfl⟩ : ∃ m, k = m + 1 := ⟨k - 1, by omega⟩
  have hle := between_le hv hc (a := a) (b := b) (by omega) hab hb
  simp only [waterhourlaw04_RefillAttained.j3]
  rw [if_neg (by decide), pBetween_eq d a b (k + 1) (by omega), pTime_eq d a (k + 1) (by omega), pTime_eq d b (k + 1) (by omega), betweenErr_yes hv (by omega), readyA_of hv hc ha (by omega), readyA_of hv hc (i := b) (by omega) hb, hc]
  simp only [Option.bind_some, Bool.false_eq_true, if_false, if_true]
  rw [decide_eq_false (show ¬ (betweenOf d a b).1 > (betweenOf d a b).2 by omega)]
  simp only [waterhourlaw04_RefillAttained.j4]
  rw [if_neg (by decide)]
  simp only [Option.bind_some]
  refine attained_l0 hv hc ha hab hb [(betweenOf d a b).1, (betweenOf d a b).2, mn (mx many (betweenOf d a b).1) (betweenOf d a b).2] (fun n hn => ?_) (by simp) 3 k 0 rfl (by omega)
  simp only [List.mem_cons, List.not_mem_nil, or_false] at hn
  rw [mx_max, mn_min] at hn
  omega
theorem attained_j2 {d : List S51} (hv : vd d = true) (hc : (clashOf d).2.2 = false) (a b many : Int) (k : Nat) (hk : 2501 ≤ k) : waterhourlaw04_RefillAttained.j2 (k + 1) d a b many false = some true := by
  obtain ⟨k, rfl⟩ : ∃ m, k = m + 1 := ⟨k - 1, by omega⟩
  have jt : waterhourlaw04_RefillAttained.j3 (k + 1) d a b many true = some true := by simp only [waterhourlaw04_RefillAttained.j3, if_true]
  simp only [waterhourlaw04_RefillAttained.j2, Event_eq, Option.bind_some, decide_eq_true_eq]
  rw [if_neg (by decide), jt]
  by_cases ha : 0 ≤ a ∧ a < d.length
  · rw [if_pos ha]
    by_cases hb : 0 ≤ b ∧ b < d.length
    · rw [if_pos hb]
      by_cases hab : a ≥ b
      · rw [decide_eq_true hab, jt]
      · rw [decide_eq_false hab]
        exact attained_j3 hv hc ha.1 (by omega) hb.2 many k (by omega)
    · rw [if_neg hb]
  · rw [if_neg ha]
theorem attained_j0 {d : List S51} (hv : vd d = true) {i : Int} (hi : 0 ≤ i ∧ i < d.length) (m a b many : Int) (k : Nat) (hk : 2503 ≤ k) : waterhourlaw04_RefillAttained.j0 (k + 1) d i m a b many false = some true := by
  obtain ⟨k, rfl⟩ : ∃ m, k = m + 1 := ⟨k - 1, by omega⟩
  obtain ⟨k, rfl⟩ : ∃ m, k = m + 1 := ⟨k - 1, by omega⟩
  simp only [waterhourlaw04_RefillAttained.j0]
  rw [if_neg (by decide), pTime_eq d i (k + 1 + 1) (by omega), pAttain_eq d i m (k + 1 + 1) (by omega)]
  simp only [Option.bind_some]
  cases hc : (clashOf d).2.2 with
  | true =>
    rw [attain_no hv hi (by rw [hc]; simp), readyA_31 hv hi, hc]
    rfl
  | false =>
    rw [readyA_of hv hc hi.1 hi.2]
    by_cases hy : (timeOf d i).1 ≤ m ∧ m ≤ (timeOf d i).2
    · have hat := attained hv hi ⟨hc, hy⟩
      have hL : (endsTo false (withAt d i (m, m)) d.length).length = d.length := endsTo_length _ _ _
      rw [attain_yes hv hi ⟨hc, hy⟩]
      generalize endsTo false (withAt d i (m, m)) d.length = L at *
      simp only [if_true, waterhourlaw04_RefillAttained.j1]
      rw [if_neg (by decide), if_neg (by decide), if_pos hy.1, decide_eq_true hy.2, if_neg (by decide)]
      simp only [refill_CheckTimes.f, Option.bind_some]
      rw [hat.1, if_pos rfl, if_pos hi.1, if_pos (by omega), hat.2, bne_self_eq_false]
      exact attained_j2 hv hc a b many k (by omega)
    · rw [attain_no hv hi (fun h => hy h.2)]
      simp only [if_true, waterhourlaw04_RefillAttained.j1]
      rw [if_neg (by decide), if_neg (by decide)]
      have j2t := attained_j2 hv hc a b many k (by omega)
      by_cases h1 : m ≥ (timeOf d i).1
      · rw [if_pos h1, decide_eq_false (show ¬ m ≤ (timeOf d i).2 by omega), if_neg (by decide), if_neg (by decide)]
        exact j2t
      · rw [if_neg h1, if_neg (by decide), if_neg (by decide)]
        exact j2t
theorem law_Attained (d : List S51) (i m a b many : Int) : waterhourlaw04_RefillAttained.f 3000 d i m a b many = some true := by
  unfold waterhourlaw04_RefillAttained.f law_sane.f
  rw [Valid_eq d 3000 (by omega), Event_eq]
  simp only [Option.bind_some, if_true]
  have jt : waterhourlaw04_RefillAttained.j0 3000 d i m a b many true = some true := by simp only [waterhourlaw04_RefillAttained.j0, if_true]
  by_cases hv : vd d = true
  · rw [if_pos hv]
    by_cases hi : 0 ≤ i ∧ i < d.length
    · rw [decide_eq_true hi]
      exact attained_j0 hv hi m a b many 2999 (by omega)
    · rw [decide_eq_false hi]
      exact jt
  · rw [if_neg hv]
    exact jt
end Go.Proofs.YtgiihjcpgjpkcaaDoor.Q
