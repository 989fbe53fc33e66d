/- What the reference says of two events that cannot be so; no program in sight. -/
import Derived.Test.YtgiihjcpgjpkcaaDoorHRefV
import Derived.Test.YtgiihjcpgjpkcaaDoorQCb
import Derived.Test.YtgiihjcpgjpkcaaDoorQD
namespace Go.Proofs.YtgiihjcpgjpkcaaDoor.Q
open Go.RowKit Go.Proofs.YtgiihjcpgjpkcaaDoorW.PrintWords Go.Proofs.YtgiihjcpgjpkcaaDoorW.PrintLast Go.Proofs.YtgiihjcpgjpkcaaDoorW.PrintMore
set_option linter.unusedVariables false
set_option linter.unusedSimpArgs false

theorem rknown_eq {d : List S51} (hv : vd d = true) {i : Int} (hi : i < d.length) : waterhourref04_known.f d i = some ((atOf d i).f0, (atOf d i).f1, isK d i) := by
  unfold waterhourref04_known.f
  by_cases h : i < 0
  · rw [if_pos h]; simp [atOf, isK, h]
  · have hb := (atOf_bound hv hi).2.2.2.2
    rw [if_neg h, if_pos (by omega), if_pos hi]
    simp only [waterhourref04_Known.f, Option.bind_some]
    have e : atOf d i = (rd_T51 d i).f1 := if_neg h
    rw [← e]
    congr 3
    rw [Bool.eq_iff_iff, hb, decide_eq_true_eq]
theorem way_l0 {d : List S51} (hv : vd d = true) (a b : Int) (hb : b < d.length) : ∀ (m k j : Nat) (s t : Int), b + 1 = j + m → m < k → s = SL d ((j : Int) - 1) - SL d a → t = SH d ((j : Int) - 1) - SH d a →
    waterhourref04_way.l0 k d b j s t = some (SL d b - SL d a, SH d b - SH d a)
  | 0, k, j, s, t, hj, hk, hs, ht => by
    obtain ⟨k, rfl⟩ : ∃ m, k = m + 1 := ⟨k - 1, by omega⟩
    simp only [waterhourref04_way.l0]
    rw [if_neg (by omega), hs, ht, show (j : Int) - 1 = b from by omega]
  | m + 1, k, j, s, t, hj, hk, hs, ht => by
    obtain ⟨k, rfl⟩ : ∃ m, k = m + 1 := ⟨k - 1, by omega⟩
    have hlt : j < d.length := by omega
    have hs1 := SL_succ d j hlt
    have b0 := SL_bound hv a
    have b1 := SL_bound hv (j : Int)
    have b2 := SL_bound hv ((j : Int) - 1)
    simp only [waterhourref04_way.l0]
    rw [if_pos (by omega), if_pos (by omega), if_pos (by omega)]
    have hl32 := (vd_iff.1 hv).2.1
    have w1 : wrap64 ((j : Int) + 1) = ((j + 1 : Nat) : Int) := by unfold wrap64; omega
    have w2 : wrap64 (s + (rd_T51 d (j : Int)).f0.f0) = SL d (j : Int) - SL d a := by unfold wrap64; omega
    have w3 : wrap64 (t + (rd_T51 d (j : Int)).f0.f1) = SH d (j : Int) - SH d a := by unfold wrap64; omega
    rw [w1, w2, w3]
    exact way_l0 hv a b hb m k (j + 1) _ _ (by omega) (by omega) (by rw [show ((j + 1 : Nat) : Int) - 1 = j from by omega]) (by rw [show ((j + 1 : Nat) : Int) - 1 = j from by omega])
theorem way_eq {d : List S51} (hv : vd d = true) {a b : Int} (ha : -1 ≤ a) (hab : a ≤ b) (hb : b < d.length) (k : Nat) (hk : 40 ≤ k) : waterhourref04_way.f k d a b = some (SL d b - SL d a, SH d b - SH d a) := by
  have hl32 := (vd_iff.1 hv).2.1
  have w1 : wrap64 (a + 1) = (((a + 1).toNat : Nat) : Int) := by unfold wrap64; omega
  unfold waterhourref04_way.f
  rw [w1]
  exact way_l0 hv a b hb (b - a).toNat k _ 0 0 (by omega) (by omega) (by rw [show (((a + 1).toNat : Nat) : Int) - 1 = a from by omega]; omega) (by rw [show (((a + 1).toNat : Nat) : Int) - 1 = a from by omega]; omega)
theorem Tells_eq {d : List S51} (hv : vd d = true) {a i : Int} (ha : -1 ≤ a) (ha' : a < d.length) (hi : -1 ≤ i) (hi' : i < d.length) (k : Nat) (hk : 40 ≤ k) :
    waterhourref04_Tells.f k d a i = some (if isK d a = true then (tlo d a i, thi d a i, true) else (0, 0, false)) := by
  have ba := SL_bound hv a
  have bi := SL_bound hv i
  have hx := atOf_bound hv ha'
  unfold waterhourref04_Tells.f tlo thi
  rw [rknown_eq hv ha']
  simp only [Option.bind_some]
  by_cases hk' : isK d a = true
  · rw [if_pos hk', if_pos hk']
    by_cases h : a ≤ i
    · rw [if_pos h, way_eq hv ha h hi' k hk]
      simp only [Option.bind_some, if_pos h]
      congr 2
      · unfold wrap64; omega
      · congr 1; unfold wrap64; omega
    · rw [if_neg h, way_eq hv hi (by omega) ha' k hk]
      simp only [Option.bind_some, if_neg h]
      congr 2
      · unfold wrap64; omega
      · congr 1; unfold wrap64; omega
  · rw [if_neg hk', if_neg hk']
theorem rcannot_eq {d : List S51} (hv : vd d = true) {a b : Int} (ha : -1 ≤ a) (hab : a < b) (hb : b < d.length) (k : Nat) (hk : 40 ≤ k) : waterhourref04_cannot.f k d a b = some (pairC d a b) := by
  unfold waterhourref04_cannot.f pairC cannotB
  rw [Tells_eq hv ha (by omega) (by omega) hb k hk, rknown_eq hv hb]
  simp only [Option.bind_some]
  by_cases h1 : isK d a = true
  · simp only [h1, if_true, Bool.true_and]
    by_cases h2 : isK d b = true
    · simp only [h2, if_true, Bool.true_and]
      unfold tlo thi
      simp only [if_pos (show a ≤ b from by omega)]
      by_cases h3 : (atOf d a).f0 + (SL d b - SL d a) > (atOf d b).f1
      · rw [if_pos h3, decide_eq_true (show (atOf d b).f1 < (atOf d a).f0 + (SL d b - SL d a) from h3), Bool.true_or]
      · rw [if_neg h3, decide_eq_false (show ¬ (atOf d b).f1 < (atOf d a).f0 + (SL d b - SL d a) from h3), Bool.false_or]
    · simp [h2]
  · simp [h1]

theorem Clash_l1 {d : List S51} (hv : vd d = true) (b : Nat) (hb : b < d.length) : ∀ (m k : Nat) (a : Int), a + 1 = m → a < b → m + 60 ≤ k →
    (∃ a' : Int, -1 ≤ a' ∧ a' ≤ a ∧ pairC d a' b = true ∧ (∀ a'' : Int, a' < a'' → a'' ≤ a → pairC d a'' b = false) ∧ waterhourref04_Clash.l1 k d b a = some (a', (b : Int), true, 0)) ∨
    ((∀ a' : Int, -1 ≤ a' → a' ≤ a → pairC d a' b = false) ∧ waterhourref04_Clash.l1 k d b a = waterhourref04_Clash.l0 (k - m - 2) d (wrap64 ((b : Int) + 1)))
  | 0, k, a, ha, hab, hk => by
    obtain ⟨k, rfl⟩ : ∃ m, k = m + 2 := ⟨k - 2, by omega⟩
    have ha1 : a = -1 := by omega
    subst ha1
    simp only [waterhourref04_Clash.l1]
    rw [if_pos (by omega), rcannot_eq hv (by omega) hab (by omega) (k + 1) (by omega)]
    simp only [Option.bind_some]
    by_cases hp : pairC d (-1) b = true
    · rw [if_pos hp]
      exact .inl ⟨-1, by omega, by omega, hp, fun a'' h1 h2 => by omega, rfl⟩
    · rw [if_neg hp, if_neg (by unfold wrap64; omega)]
      exact .inr ⟨fun a' h1 h2 => by obtain rfl : a' = -1 := by omega
                                     exact Bool.eq_false_iff.2 hp, rfl⟩
  | m + 1, k, a, ha, hab, hk => by
    obtain ⟨k, rfl⟩ : ∃ m, k = m + 1 := ⟨k - 1, by omega⟩
    have hl32 := (vd_iff.1 hv).2.1
    simp only [waterhourref04_Clash.l1]
    rw [if_pos (by omega), rcannot_eq hv (by omega) hab (by omega) k (by omega)]
    simp only [Option.bind_some]
    by_cases hp : pairC d a b = true
    · rw [if_pos hp]
      exact .inl ⟨a, by omega, by omega, hp, fun a'' h1 h2 => by omega, rfl⟩
    · rw [if_neg hp, show wrap64 (a - 1) = a - 1 from by unfold wrap64; omega]
      rcases Clash_l1 hv b hb m k (a - 1) (by omega) (by omega) (by omega) with ⟨a', q1, q2, q3, q4, q5⟩ | ⟨q1, q2⟩
      · refine .inl ⟨a', q1, by omega, q3, fun a'' h1 h2 => ?_, q5⟩
        rcases Int.lt_or_le a'' a with h | h
        · exact q4 a'' h1 (by omega)
        · obtain rfl : a'' = a := by omega
          exact Bool.eq_false_iff.2 hp
      · refine .inr ⟨fun a' h1 h2 => ?_, ?_⟩
        · rcases Int.lt_or_le a' a with h | h
          · exact q1 a' h1 (by omega)
          · obtain rfl : a' = a := by omega
            exact Bool.eq_false_iff.2 hp
        · rw [q2, show k - m - 2 = k + 1 - (m + 1) - 2 from by omega]
theorem Clash_l0 {d : List S51} (hv : vd d = true) : ∀ (m k b : Nat), d.length = b + m → m * 40 + 200 ≤ k → (∀ x y : Int, -1 ≤ x → x < y → y < b → pairC d x y = false) →
    ∃ x : Int × Int × Bool, ClashSpec d x ∧ waterhourref04_Clash.l0 k d b = some (x.1, x.2.1, x.2.2, 0)
  | 0, k, b, hb, hk, hno => by
    obtain ⟨k, rfl⟩ : ∃ m, k = m + 1 := ⟨k - 1, by omega⟩
    simp only [waterhourref04_Clash.l0]
    rw [if_neg (by omega)]
    refine ⟨(0, 0, false), ⟨fun _ => ⟨rfl, fun x y h1 h2 h3 => hno x y h1 h2 (by omega)⟩, fun h => by cases h⟩, rfl⟩
  | m + 1, k, b, hb, hk, hno => by
    obtain ⟨k, rfl⟩ : ∃ m, k = m + 1 := ⟨k - 1, by omega⟩
    have hl32 := (vd_iff.1 hv).2.1
    simp only [waterhourref04_Clash.l0]
    rw [if_pos (by omega), show wrap64 ((b : Int) - 1) = (b : Int) - 1 from by unfold wrap64; omega]
    rcases Clash_l1 hv b (by omega) b k ((b : Int) - 1) (by omega) (by omega) (by omega) with ⟨a', q1, q2, q3, q4, q5⟩ | ⟨q1, q2⟩
    · refine ⟨(a', b, true), ⟨(fun h => by cases h), fun _ => ⟨q1, by simp only; omega, by simp only; omega, q3, hno, fun a h1 h2 => q4 a h1 ?_⟩⟩, q5⟩
      simp only at h2
      omega
    · rw [q2, show wrap64 ((b : Int) + 1) = ((b + 1 : Nat) : Int) from by unfold wrap64; omega]
      refine Clash_l0 hv m (k - b - 2) (b + 1) (by omega) (by omega) (fun x y h1 h2 h3 => ?_)
      rcases Int.lt_or_le y b with h | h
      · exact hno x y h1 h2 h
      · obtain rfl : y = b := by omega
        exact q1 x h1 (by omega)
theorem rClash_eq (d : List S51) (k : Nat) (hk : 2000 ≤ k) : waterhourref04_Clash.f k d = some (if vd d = true then ((clashOf d).1, (clashOf d).2.1, (clashOf d).2.2, 0) else (0, 0, false, 40)) := by
  unfold waterhourref04_Clash.f
  rw [Valid_eq d k (by omega)]
  simp only [Option.bind_some]
  by_cases hv : vd d = true
  · rw [if_pos hv, if_pos hv]
    obtain ⟨x, hx, he⟩ := Clash_l0 hv d.length k 0 (by omega) (by have := (vd_iff.1 hv).2.1; omega) (fun x y h1 h2 h3 => by omega)
    rw [show ((0 : Nat) : Int) = 0 from rfl] at he
    rw [he, hx.unique (clashOf_spec d)]
  · rw [if_neg hv, if_neg hv]
theorem rPossible_eq (d : List S51) (k : Nat) (hk : 2000 ≤ k) : waterhourref04_Possible.f k d = some (vd d && !(clashOf d).2.2, if vd d = true then 0 else 40) := by
  unfold waterhourref04_Possible.f
  rw [rClash_eq d k hk]
  by_cases hv : vd d = true
  · simp [hv]
  · simp [hv]
end Go.Proofs.YtgiihjcpgjpkcaaDoor.Q
