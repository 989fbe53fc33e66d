/- RefillWithout: the statement's own function answers true, at every two days, index and list of ints; no program in sight. -/
import Derived.Test.YtgiihjcpgjpkcaaDoorHBehind
import Derived.Test.YtgiihjcpgjpkcaaDoorHCatI
import Derived.Test.YtgiihjcpgjpkcaaDoorHAns
import Derived.Test.YtgiihjcpgjpkcaaDoorHRefV
import Derived.Test.YtgiihjcpgjpkcaaDoorHEqual
import Derived.Test.YtgiihjcpgjpkcaaDoorQWWithout
namespace Go.Proofs.YtgiihjcpgjpkcaaDoor.Q
open Go.RowKit Go.Proofs.YtgiihjcpgjpkcaaDoorW.PrintWords Go.Proofs.YtgiihjcpgjpkcaaDoorW.PrintLast Go.Proofs.YtgiihjcpgjpkcaaDoorW.PrintMore
set_option linter.unusedVariables false
set_option linter.unusedSimpArgs false

/-- The list is allowed up to the event n of the day j. -/
def upTo (j : List S51) (l : List Int) (n : Nat) : Prop := ∀ p, p < n → okAt j l p = true
theorem without_l0 {a b : List S51} {l : List Int} (ha : vd a = true) (hb : vd b = true) (h32 : ¬ 32 < a.length + b.length) (hl : l.length = a.length + b.length) (hw : ∀ x ∈ l, -9223372036854775808 ≤ x ∧ x ≤ 9223372036854775807) :
    ∀ (m k q : Nat) (c : Bool), b.length = q + m → m + 100 ≤ k → (c = true ↔ upTo (a ++ b) l (a.length + q)) → waterhourlaw04_RefillWithout.l0 k a l (a ++ b) c b b.length q = some true
  | 0, k, q, c, hq, hk, hc => by
    obtain ⟨k, rfl⟩ : ∃ m, k = m + 1 := ⟨k - 1, by omega⟩
    obtain rfl : b.length = q := by omega
    have hz : checkOf (a ++ b) l = 0 ↔ upTo (a ++ b) l (a.length + b.length) := by
      rw [check_zero, allOk_iff, List.length_append]
      exact ⟨fun h => h.2.2, fun h => ⟨app_vd ha hb h32, by omega, h⟩⟩
    simp only [waterhourlaw04_RefillWithout.l0, refill_CheckTimes.f]
    rw [if_neg (by omega), Option.bind_some]
    cases c with
    | true => rw [show (checkOf (a ++ b) l == 0) = true from beq_iff_eq.2 (hz.2 (hc.1 rfl))]; rfl
    | false =>
      have hn : checkOf (a ++ b) l ≠ 0 := fun h => by have := hc.2 (hz.1 h); cases this
      rw [show (checkOf (a ++ b) l == 0) = false from beq_eq_false_iff_ne.2 hn]; rfl
  | m + 1, k, q, c, hq, hk, hc => by
    obtain ⟨k, rfl⟩ : ∃ m, k = m + 1 := ⟨k - 1, by omega⟩
    have a1 := (vd_iff.1 ha).1
    have hqb : q < b.length := by omega
    have hnext : ∀ c' : Bool, (c' = true ↔ upTo (a ++ b) l (a.length + (q + 1))) → waterhourlaw04_RefillWithout.l0 k a l (a ++ b) c' b b.length ((q + 1 : Nat) : Int) = some true := fun c' h => without_l0 ha hb h32 hl hw m k (q + 1) c' (by omega) (by omega) h
    have hstep : upTo (a ++ b) l (a.length + (q + 1)) ↔ upTo (a ++ b) l (a.length + q) ∧ okAt (a ++ b) l (a.length + q) = true := by
      constructor
      · exact fun h => ⟨fun p hp => h p (by omega), h _ (by omega)⟩
      · intro h p hp
        by_cases e : p = a.length + q
        · subst e; exact h.2
        · exact h.1 p (by omega)
    have w0 : wrap64 ((a.length : Int) + (q : Int)) = ((a.length + q : Nat) : Int) := by unfold wrap64; omega
    have w1 : wrap64 (((a.length + q : Nat) : Int) - 1) = ((a.length + q - 1 : Nat) : Int) := by unfold wrap64; omega
    have w2 : wrap64 ((q : Int) + 1) = ((q + 1 : Nat) : Int) := by unfold wrap64; omega
    simp only [waterhourlaw04_RefillWithout.l0, w0, w1, w2]
    rw [if_pos (by omega), if_pos (by omega), if_pos (by omega), if_pos (by omega), if_pos (by omega), if_pos (by omega), if_pos (by omega)]
    by_cases hct : c = true
    · have hup := hc.1 hct
      have hv := app_vd ha hb h32
      have hpm := prev_most hv (l := l) (a.length + q) (by rw [List.length_append]; omega) hup
      have hpr := prev_range (d := a ++ b) (l := l) (k := a.length + q) hup
      have hpd : prevAt l (a.length + q) = rd l ((a.length + q - 1 : Nat) : Int) := by rw [prev_def, if_neg (by omega)]
      have hx := evOk_iff.1 (rd_ok hb hqb)
      have hnow : -9223372036854775808 ≤ rd l ((a.length + q : Nat) : Int) ∧ rd l ((a.length + q : Nat) : Int) ≤ 9223372036854775807 := by
        refine hw _ ?_
        unfold rd
        rw [Int.toNat_natCast, List.getD_eq_getElem?_getD, List.getElem?_eq_getElem (show a.length + q < l.length by omega)]
        exact List.getElem_mem _
      have hok := ok_iff (d := a ++ b) (l := l) (k := a.length + q)
      rw [rd_app_e, hpd] at hok
      rw [hpd] at hpm hpr
      rw [if_pos hct]
      generalize rd l ((a.length + q : Nat) : Int) = now at *
      generalize rd l ((a.length + q - 1 : Nat) : Int) = prev at *
      have hwr : wrap64 (now - prev) = now - prev ∨ 524288 < wrap64 (now - prev) ∧ now < 0 := by unfold wrap64; omega
      have hno : ¬ (okAt (a ++ b) l (a.length + q) = true) → waterhourlaw04_RefillWithout.l0 k a l (a ++ b) false b b.length ((q + 1 : Nat) : Int) = some true := fun h => hnext false ⟨fun e => (by cases e), fun e => absurd (hstep.1 e).2 h⟩
      by_cases g1 : wrap64 (now - prev) ≥ (rd_T51 b (q : Int)).f0.f0
      · rw [if_pos g1]
        by_cases g2 : wrap64 (now - prev) ≤ (rd_T51 b (q : Int)).f0.f1
        · rw [if_pos g2]
          have hd : wrap64 (now - prev) = now - prev := hwr.resolve_right (fun h => by omega)
          rw [hd] at g1 g2
          have hin : 0 ≤ now ∧ now ≤ 16777216 ∧ prev + (rd_T51 b (q : Int)).f0.f0 ≤ now ∧ now ≤ prev + (rd_T51 b (q : Int)).f0.f1 := ⟨by omega, by omega, by omega, by omega⟩
          have hk' : waterhourref04_Known.f (rd_T51 b (q : Int)).f1.f0 (rd_T51 b (q : Int)).f1.f1 = some (decide ((rd_T51 b (q : Int)).f1.f0 ≤ (rd_T51 b (q : Int)).f1.f1)) := rfl
          rw [hk', Option.bind_some]
          by_cases g3 : (rd_T51 b (q : Int)).f1.f0 ≤ (rd_T51 b (q : Int)).f1.f1
          · rw [if_pos (decide_eq_true g3)]
            by_cases g4 : now ≥ (rd_T51 b (q : Int)).f1.f0
            · rw [if_pos g4]
              by_cases g5 : now ≤ (rd_T51 b (q : Int)).f1.f1
              · rw [decide_eq_true g5]
                exact hnext true ⟨fun _ => hstep.2 ⟨hup, hok.2 ⟨hin.1, hin.2.1, hin.2.2.1, hin.2.2.2, .inr ⟨g4, g5⟩⟩⟩, fun _ => rfl⟩
              · rw [decide_eq_false g5]
                exact hno fun h => by have := (hok.1 h).2.2.2.2; omega
            · rw [if_neg g4]
              exact hno fun h => by have := (hok.1 h).2.2.2.2; omega
          · rw [if_neg (by simpa using g3)]
            exact hnext true ⟨fun _ => hstep.2 ⟨hup, hok.2 ⟨hin.1, hin.2.1, hin.2.2.1, hin.2.2.2, .inl (hx.2.2.2.resolve_left (fun h => g3 h.2.1))⟩⟩, fun _ => rfl⟩
        · rw [if_neg g2]
          refine hno fun h => ?_
          have := hok.1 h
          have hd : wrap64 (now - prev) = now - prev := hwr.resolve_right (fun h => by omega)
          omega
      · rw [if_neg g1]
        refine hno fun h => ?_
        have := hok.1 h
        have hd : wrap64 (now - prev) = now - prev := hwr.resolve_right (fun h => by omega)
        omega
    · rw [if_neg hct]
      exact hnext false ⟨fun e => (by cases e), fun e => absurd (hc.2 (hstep.1 e).1) hct⟩
theorem without_j6 {a b : List S51} {l : List Int} (ha : vd a = true) (hb : vd b = true) (hw : ∀ x ∈ l, -9223372036854775808 ≤ x ∧ x ≤ 9223372036854775807) (k : Nat) (hk : 2001 ≤ k) : waterhourlaw04_RefillWithout.j6 (k + 1) a b l = some true := by
  obtain ⟨k, rfl⟩ : ∃ m, k = m + 1 := ⟨k - 1, by omega⟩
  have a2 := (vd_iff.1 ha).2.1
  have b2 := (vd_iff.1 hb).2.1
  have jt : ∀ j : List S51, waterhourlaw04_RefillWithout.j7 (k + 1) a b l j true = some true := fun j => by simp only [waterhourlaw04_RefillWithout.j7, if_true]
  simp only [waterhourlaw04_RefillWithout.j6]
  rw [pJoined_eq a b (k + 1) (by omega), Option.bind_some]
  by_cases h : 32 < a.length + b.length
  · rw [joined_many ha hb h]
    dsimp only
    rw [if_neg (show ¬ (2 : Int) = 0 by decide), if_pos rfl, if_neg (show ¬ (2 : Int) = 0 by decide)]
    rfl
  · rw [joined_ok ha hb h]
    dsimp only
    rw [if_pos rfl, if_pos (rfl : (0 : Int) = 0), jt]
    by_cases hl : (l.length : Int) = ((a ++ b).length : Int)
    · rw [if_pos hl]
      rw [List.length_append] at hl ⊢
      rw [show wrap64 ((a.length : Int) + (b.length : Int)) = (a.length : Int) + (b.length : Int) from by unfold wrap64; omega, show (((a.length + b.length : Nat) : Int) != (a.length : Int) + (b.length : Int)) = false from bne_eq_false_iff_eq.2 (by omega)]
      have hf := first_part (b := b) (l := l) ha (by omega)
      simp only [waterhourlaw04_RefillWithout.j7, refill_CheckTimes.f]
      rw [if_neg (by decide), if_pos (by omega), if_pos (by omega), Option.bind_some, Int.toNat_natCast]
      refine without_l0 ha hb h (by omega) hw b.length k 0 _ (by omega) (by omega) ?_
      rw [beq_iff_eq, hf]
      exact Iff.rfl
    · rw [if_neg hl]
theorem without_j5 {a b : List S51} {l : List Int} {p : Nat} (ha : vd a = true) (hb : vd b = true) (hw : ∀ x ∈ l, -9223372036854775808 ≤ x ∧ x ≤ 9223372036854775807) (hp : p < a.length) (hl : l.length = a.length - 1) {v : Int} (hz : checkOf a (l.take p ++ ([v] ++ l.drop p)) = 0) (k : Nat) (hk : 2002 ≤ k) :
    waterhourlaw04_RefillWithout.j5 (k + 1) a b p l v = some true := by
  obtain ⟨k, rfl⟩ : ∃ m, k = m + 1 := ⟨k - 1, by omega⟩
  have a2 := (vd_iff.1 ha).2.1
  have hf : [l.take p, [v], l.drop p].flatten = l.take p ++ ([v] ++ l.drop p) := by simp
  have hlen : (l.take p ++ ([v] ++ l.drop p)).length = a.length := by simp only [List.length_append, List.length_take, List.length_drop, List.length_cons, List.length_nil]; omega
  simp only [waterhourlaw04_RefillWithout.j5, refill_CheckTimes.f]
  rw [if_pos (by omega), if_pos (by omega), Int.toNat_natCast, cat_eq [l.take p, [v], l.drop p] (by rw [hf, hlen]; omega) (by rw [hf, hlen]; omega) (by simp) (k + 1) (by omega), hf, Option.bind_some, Option.bind_some, if_pos hz]
  exact without_j6 ha hb hw k (by omega)
theorem without_j3 {a b : List S51} {l : List Int} {p : Nat} (ha : vd a = true) (hb : vd b = true) (hw : ∀ x ∈ l, -9223372036854775808 ≤ x ∧ x ≤ 9223372036854775807) (hp : p < a.length) (h2 : 2 ≤ a.length) (hs : p + 1 < a.length → (rd_T51 a ((p + 1 : Nat) : Int)).f0.f1 + (rd_T51 a (p : Int)).f0.f1 ≤ 524288)
    (hK : ¬ (rd_T51 a (p : Int)).f1.f0 ≤ (rd_T51 a (p : Int)).f1.f1) (h : checkOf (cutDay a p) l = 0) (k : Nat) (hk : 2004 ≤ k) : waterhourlaw04_RefillWithout.j3 (k + 1) a b p l true = some true := by
  obtain ⟨k, rfl⟩ : ∃ m, k = m + 1 := ⟨k - 1, by omega⟩
  obtain ⟨k, rfl⟩ : ∃ m, k = m + 1 := ⟨k - 1, by omega⟩
  obtain ⟨hl, hr, hn, hz⟩ := put_check ha hp h2 hs hK h
  have xp := evOk_iff.1 (rd_ok ha hp)
  have a2 := (vd_iff.1 ha).2.1
  have hj4 : ∀ v0 : Int, v0 = (rd_T51 a (p : Int)).f0.f0 + prevAt l p → waterhourlaw04_RefillWithout.j4 (k + 1 + 1) a b p l v0 = some true := fun v0 hv0 => by
    have hpm : putMin a p l = if p < l.length then max ((rd_T51 a (p : Int)).f0.f0 + prevAt l p) (rd l (p : Int) - (rd_T51 a ((p + 1 : Nat) : Int)).f0.f1) else (rd_T51 a (p : Int)).f0.f0 + prevAt l p := rfl
    simp only [waterhourlaw04_RefillWithout.j4, mx_max]
    by_cases hlt : p < l.length
    · have x2 := evOk_iff.1 (rd_ok ha (show p + 1 < a.length by omega))
      have hq := hn hlt
      rw [if_pos hlt] at hpm
      rw [if_pos (by omega), if_pos (by omega), show wrap64 ((p : Int) + 1) = ((p + 1 : Nat) : Int) from by unfold wrap64; omega, if_pos (by omega), if_pos (by omega), show wrap64 (rd l (p : Int) - (rd_T51 a ((p + 1 : Nat) : Int)).f0.f1) = rd l (p : Int) - (rd_T51 a ((p + 1 : Nat) : Int)).f0.f1 from by unfold wrap64; omega, hv0, ← hpm]
      exact without_j5 ha hb hw hp hl hz k (by omega)
    · rw [if_neg hlt] at hpm
      rw [if_neg (by omega), hv0, ← hpm]
      exact without_j5 ha hb hw hp hl hz k (by omega)
  simp only [waterhourlaw04_RefillWithout.j3]
  rw [if_pos trivial, if_pos (by omega), if_pos (by omega)]
  by_cases h0 : (p : Int) > 0
  · have hpd : prevAt l p = rd l ((p - 1 : Nat) : Int) := by rw [prev_def, if_neg (by omega)]
    rw [hpd] at hr hj4
    rw [if_pos h0, show wrap64 ((p : Int) - 1) = ((p - 1 : Nat) : Int) from by unfold wrap64; omega, if_pos (by omega), if_pos (by omega)]
    exact hj4 _ (by unfold wrap64; omega)
  · have hpd : prevAt l p = 0 := by rw [prev_def, if_pos (by omega)]
    rw [hpd] at hj4
    rw [if_neg h0]
    exact hj4 _ (by omega)
theorem without_j2 {a b : List S51} {l : List Int} {p : Nat} (ha : vd a = true) (hb : vd b = true) (hw : ∀ x ∈ l, -9223372036854775808 ≤ x ∧ x ≤ 9223372036854775807) (hp : p < a.length) (h2 : 2 ≤ a.length) (hs : p + 1 < a.length → (rd_T51 a ((p + 1 : Nat) : Int)).f0.f1 + (rd_T51 a (p : Int)).f0.f1 ≤ 524288)
    (k : Nat) (hk : 2006 ≤ k) : waterhourlaw04_RefillWithout.j2 (k + 1) a b p l (cutDay a p) false = some true := by
  obtain ⟨k, rfl⟩ : ∃ m, k = m + 1 := ⟨k - 1, by omega⟩
  obtain ⟨k, rfl⟩ : ∃ m, k = m + 1 := ⟨k - 1, by omega⟩
  have jf : waterhourlaw04_RefillWithout.j3 (k + 1 + 1) a b p l false = some true := by
    simp only [waterhourlaw04_RefillWithout.j3]
    rw [if_neg (by decide)]
    exact without_j6 ha hb hw k (by omega)
  have hk' : waterhourref04_Known.f (rd_T51 a (p : Int)).f1.f0 (rd_T51 a (p : Int)).f1.f1 = some (decide ((rd_T51 a (p : Int)).f1.f0 ≤ (rd_T51 a (p : Int)).f1.f1)) := rfl
  simp only [waterhourlaw04_RefillWithout.j2, refill_CheckTimes.f]
  rw [if_neg (by decide), if_pos (by omega), if_pos (by omega), hk', Option.bind_some, jf]
  by_cases hK : (rd_T51 a (p : Int)).f1.f0 ≤ (rd_T51 a (p : Int)).f1.f1
  · rw [if_pos (decide_eq_true hK)]
  · rw [if_neg (by simpa using hK), Option.bind_some]
    by_cases hz : checkOf (cutDay a p) l = 0
    · rw [show (checkOf (cutDay a p) l == 0) = true from beq_iff_eq.2 hz]
      exact without_j3 ha hb hw hp h2 hs hK hz (k + 1) (by omega)
    · rw [show (checkOf (cutDay a p) l == 0) = false from beq_eq_false_iff_ne.2 hz]
      exact jf
theorem without_j0 {a b : List S51} {l : List Int} (ha : vd a = true) (hb : vd b = true) (i : Int) (hw : ∀ x ∈ l, -9223372036854775808 ≤ x ∧ x ≤ 9223372036854775807) (c : Bool) (k : Nat) (hk : 2010 ≤ k) : waterhourlaw04_RefillWithout.j0 (k + 1) a b i l c = some true := by
  obtain ⟨k, rfl⟩ : ∃ m, k = m + 1 := ⟨k - 1, by omega⟩
  obtain ⟨k, rfl⟩ : ∃ m, k = m + 1 := ⟨k - 1, by omega⟩
  simp only [waterhourlaw04_RefillWithout.j0, refill_Without.f]
  cases c with
  | true => rfl
  | false =>
    rw [if_neg (by decide), Option.bind_some]
    by_cases hE : withoutErr a i = 0
    · obtain ⟨_, hi, h2, hs⟩ := without_ok hE
      obtain ⟨p, rfl⟩ := Int.eq_ofNat_of_zero_le hi.1
      have hp : p < a.length := by omega
      rw [Int.toNat_natCast] at hs
      have hcv := cut_vd ha hp h2 hs
      have hcl := cut_len (d := a) hp
      have hj2 : waterhourlaw04_RefillWithout.j2 (k + 1) a b p l (cutDay a p) false = some true := without_j2 ha hb hw hp h2 hs k (by omega)
      have ec : (summed a ((p : Int)).toNat).eraseIdx ((p : Int)).toNat = cutDay a p := by rw [Int.toNat_natCast]; rfl
      rw [hE, if_pos rfl, if_pos rfl, ec, Event_eq, Option.bind_some, if_pos (decide_eq_true ⟨by omega, by omega⟩), Valid_eq _ (k + 1 + 1) (by omega), hcv, Option.bind_some, if_pos rfl, hcl]
      rw [show wrap64 ((a.length : Int) - 1) = (a.length : Int) - 1 from by have := (vd_iff.1 ha).2.1; unfold wrap64; omega, show (((a.length - 1 : Nat) : Int) != (a.length : Int) - 1) = false from bne_eq_false_iff_eq.2 (by omega)]
      simp only [waterhourlaw04_RefillWithout.j1, refill_CheckTimes.f]
      rw [if_neg (by decide), Option.bind_some, hj2]
      by_cases hz : checkOf a l = 0
      · have hl := (check_zero.1 hz).2.1
        have a2 := (vd_iff.1 ha).2.1
        have hcc := cut_check ha hp h2 hs hz
        have hf : [l.take p, l.drop (p + 1)].flatten = l.take p ++ l.drop (p + 1) := by simp
        have hlen : (l.take p ++ l.drop (p + 1)).length = a.length - 1 := by simp only [List.length_append, List.length_take, List.length_drop]; omega
        rw [if_pos hz, if_pos (by omega), if_pos (by omega), show wrap64 ((p : Int) + 1) = ((p + 1 : Nat) : Int) from by unfold wrap64; omega, if_pos (by omega), if_pos (by omega), Int.toNat_natCast, Int.toNat_natCast, cat_eq [l.take p, l.drop (p + 1)] (by rw [hf, hlen]; omega) (by rw [hf, hlen]; omega) (by simp) (k + 1) (by omega), hf, Option.bind_some, Option.bind_some, hcc, bne_self_eq_false]
        exact hj2
      · rw [if_neg hz]
    · rw [if_neg hE]
      exact without_j6 ha hb hw (k + 1) (by omega)
theorem law_Without (a b : List S51) (i : Int) (l : List Int) (hw : ∀ x ∈ l, -9223372036854775808 ≤ x ∧ x ≤ 9223372036854775807) : waterhourlaw04_RefillWithout.f 3000 a b i l = some true := by
  unfold waterhourlaw04_RefillWithout.f law_sane.f
  rw [Valid_eq a 3000 (by omega), Valid_eq b 3000 (by omega), few_one a l 3000 (by omega), Option.bind_some, if_pos rfl, Option.bind_some, Option.bind_some, Option.bind_some]
  have jt : waterhourlaw04_RefillWithout.j0 3000 a b i l true = some true := by simp only [waterhourlaw04_RefillWithout.j0, if_true]
  rw [jt]
  by_cases ha : vd a = true
  · rw [if_pos ha]
    by_cases hb : vd b = true
    · rw [if_pos hb]
      exact without_j0 ha hb i hw _ 2999 (by omega)
    · rw [if_neg hb]
  · rw [if_neg ha]
end Go.Proofs.YtgiihjcpgjpkcaaDoor.Q
