/- What the functions of the reference come to, as plain functions of the day; no program in sight. -/
import Derived.Test.YtgiihjcpgjpkcaaDoorHPure1
import Derived.Test.YtgiihjcpgjpkcaaDoorQC
import Derived.Test.YtgiihjcpgjpkcaaDoorQD
namespace Go.Proofs.YtgiihjcpgjpkcaaDoor.Q
open Go.RowKit Go.Proofs.YtgiihjcpgjpkcaaDoorW.PrintWords Go.Proofs.YtgiihjcpgjpkcaaDoorW.PrintLast Go.Proofs.YtgiihjcpgjpkcaaDoorW.PrintMore
set_option linter.unusedVariables false
set_option linter.unusedSimpArgs false

theorem minutes_eq (a b most : Int) : waterhourref04_minutes.f a b most = some (decide (0 ≤ a ∧ a ≤ b ∧ b ≤ most)) := by
  unfold waterhourref04_minutes.f
  by_cases h1 : a ≥ 0
  · rw [if_pos h1]
    by_cases h2 : a ≤ b
    · rw [if_pos h2]
      by_cases h3 : b ≤ most
      · rw [decide_eq_true h3, decide_eq_true (show _ ∧ _ ∧ _ from ⟨h1, h2, h3⟩)]
      · rw [decide_eq_false h3, decide_eq_false (fun h => h3 h.2.2)]
    · rw [if_neg h2, decide_eq_false (fun h => h2 h.2.1)]
  · rw [if_neg h1, decide_eq_false (fun h => h1 h.1)]
theorem Event_eq (d : List S51) (i least : Int) : waterhourref04_Event.f d i least = some (decide (least ≤ i ∧ i < d.length)) := by
  unfold waterhourref04_Event.f
  by_cases h1 : i ≥ least
  · rw [if_pos h1]
    by_cases h2 : i < d.length
    · rw [decide_eq_true h2, decide_eq_true (show _ ∧ _ from ⟨h1, h2⟩)]
    · rw [decide_eq_false h2, decide_eq_false (fun h => h2 h.2)]
  · rw [if_neg h1, decide_eq_false (fun h => h1 h.1)]
theorem Valid_l0 (d : List S51) (hl : d.length ≤ 32) : ∀ (m k j : Nat), d.length = j + m → m < k → waterhourref04_Valid.l0 k d j = some ((d.drop j).all evOk)
  | 0, k, j, hj, hk => by
    obtain ⟨k, rfl⟩ : ∃ m, k = m + 1 := ⟨k - 1, by omega⟩
    simp only [waterhourref04_Valid.l0]
    rw [if_neg (by omega), List.drop_of_length_le (by omega)]
    rfl
  | m + 1, k, j, hj, hk => by
    obtain ⟨k, rfl⟩ : ∃ m, k = m + 1 := ⟨k - 1, by omega⟩
    have ih := Valid_l0 d hl m k (j + 1) (by omega) (by omega)
    have w1 : wrap64 ((j : Int) + 1) = ((j + 1 : Nat) : Int) := by unfold wrap64; omega
    simp only [waterhourref04_Valid.l0]
    rw [if_pos (by omega), if_pos (by omega), rd_drop d j (by omega), List.all_cons]
    simp only [minutes_eq, Option.bind_some]
    rw [w1, ih]
    generalize rd_T51 d (j : Int) = e
    by_cases h1 : 0 ≤ e.f0.f0 ∧ e.f0.f0 ≤ e.f0.f1 ∧ e.f0.f1 ≤ 524288
    · rw [if_pos (decide_eq_true h1)]
      by_cases h3 : 0 ≤ e.f1.f0 ∧ e.f1.f0 ≤ e.f1.f1 ∧ e.f1.f1 ≤ 16777216
      · have he : evOk e = true := evOk_iff.2 ⟨h1.1, h1.2.1, h1.2.2, .inl h3⟩
        rw [if_pos (decide_eq_true h3), he, Bool.true_and]
      · rw [if_neg (by simpa using h3)]
        by_cases h4 : e.f1.f0 = 1
        · rw [if_pos h4]
          by_cases h5 : e.f1.f1 = 0
          · have he : evOk e = true := evOk_iff.2 ⟨h1.1, h1.2.1, h1.2.2, .inr ⟨h4, h5⟩⟩
            simp [h5, he]
          · have he : evOk e = false := Bool.eq_false_iff.2 fun h => (evOk_iff.1 h).2.2.2.elim h3 (fun q => h5 q.2)
            simp [h5, he]
        · have he : evOk e = false := Bool.eq_false_iff.2 fun h => (evOk_iff.1 h).2.2.2.elim h3 (fun q => h4 q.1)
          simp [h4, he]
    · have he : evOk e = false := Bool.eq_false_iff.2 fun h => h1 ⟨(evOk_iff.1 h).1, (evOk_iff.1 h).2.1, (evOk_iff.1 h).2.2.1⟩
      rw [if_neg (by simpa using h1), he, Bool.false_and]
theorem Valid_eq (d : List S51) (k : Nat) (hk : 40 ≤ k) : waterhourref04_Valid.f k d = some (vd d) := by
  obtain ⟨k, rfl⟩ : ∃ m, k = m + 1 := ⟨k - 1, by omega⟩
  unfold waterhourref04_Valid.f
  by_cases h1 : (d.length : Int) < 1
  · rw [if_pos h1]
    simp only [waterhourref04_Valid.j0, if_true]
    have : vd d = false := Bool.eq_false_iff.2 fun h => by have := (vd_iff.1 h).1; omega
    rw [this]
  · rw [if_neg h1]
    by_cases h2 : (d.length : Int) > 32
    · rw [decide_eq_true h2]
      simp only [waterhourref04_Valid.j0, if_true]
      have : vd d = false := Bool.eq_false_iff.2 fun h => by have := (vd_iff.1 h).2.1; omega
      rw [this]
    · rw [decide_eq_false h2]
      simp only [waterhourref04_Valid.j0, Bool.false_eq_true, if_false]
      have := Valid_l0 d (by omega) d.length k 0 (by omega) (by omega)
      rw [Int.natCast_zero] at this
      rw [this, List.drop_zero]
      congr 1
      rw [Bool.eq_iff_iff, vd_iff, List.all_eq_true]
      exact ⟨fun h => ⟨by omega, by omega, h⟩, fun h => h.2.2⟩
theorem rknown_eq {d : List S51} (hv : vd d = true) {i : Int} (hi : i < d.length) : waterhourref04_known.f d i = some ((atOf d i).f0, (atOf d i).f1, isK d i) := by
  unfold waterhourref04_known.f
  by_cases h : i < 0
  · rw [if_pos h]; simp [atOf, isK, h]
  · have hb := (atOf_bound hv hi).2.2.2.2
    rw [if_neg h, if_pos (by omega), if_pos hi]
    simp only [waterhourref04_Known.f, Option.bind_some]
    have e : atOf d i = (rd_T51 d i).f1 := if_neg h
    rw [← e]
    congr 3
    rw [Bool.eq_iff_iff, hb, decide_eq_true_eq]
theorem take_succ' (d : List S51) (j : Nat) (h : j < d.length) : d.take (j + 1) = d.take j ++ [rd_T51 d (j : Int)] := by
  rw [List.take_succ_eq_append_getElem h]
  congr 2
  unfold rd_T51
  rw [Int.toNat_natCast, List.getD_eq_getElem?_getD, List.getElem?_eq_getElem h]
  rfl
theorem SL_succ (d : List S51) (j : Nat) (h : j < d.length) : SL d (j : Int) = SL d ((j : Int) - 1) + (rd_T51 d (j : Int)).f0.f0 ∧ SH d (j : Int) = SH d ((j : Int) - 1) + (rd_T51 d (j : Int)).f0.f1 := by
  unfold SL SH
  rw [show ((j : Int) + 1).toNat = j + 1 from by omega, show ((j : Int) - 1 + 1).toNat = j from by omega, take_succ' d j h, sLo_append, sHi_append]
  simp [sLo, sHi]
theorem way_l0 {d : List S51} (hv : vd d = true) (a b : Int) (hb : b < d.length) : ∀ (m k j : Nat) (s t : Int), b + 1 = j + m → m < k → s = SL d ((j : Int) - 1) - SL d a → t = SH d ((j : Int) - 1) - SH d a →
    waterhourref04_way.l0 k d b j s t = some (SL d b - SL d a, SH d b - SH d a)
  | 0, k, j, s, t, hj, hk, hs, ht => by
    obtain ⟨k, rfl⟩ : ∃ m, k = m + 1 := ⟨k - 1, by omega⟩
    simp only [waterhourref04_way.l0]
    rw [if_neg (by omega), hs, ht, show (j : Int) - 1 = b from by omega]
  | m + 1, k, j, s, t, hj, hk, hs, ht => by
    obtain ⟨k, rfl⟩ : ∃ m, k = m + 1 := ⟨k - 1, by omega⟩
    have hlt : j < d.length := by omega
    have hs1 := SL_succ d j hlt
    have b0 := SL_bound hv a
    have b1 := SL_bound hv (j : Int)
    have b2 := SL_bound hv ((j : Int) - 1)
    simp only [waterhourref04_way.l0]
    rw [if_pos (by omega), if_pos (by omega), if_pos (by omega)]
    have hl32 := (vd_iff.1 hv).2.1
    have w1 : wrap64 ((j : Int) + 1) = ((j + 1 : Nat) : Int) := by unfold wrap64; omega
    have w2 : wrap64 (s + (rd_T51 d (j : Int)).f0.f0) = SL d (j : Int) - SL d a := by unfold wrap64; omega
    have w3 : wrap64 (t + (rd_T51 d (j : Int)).f0.f1) = SH d (j : Int) - SH d a := by unfold wrap64; omega
    rw [w1, w2, w3]
    exact way_l0 hv a b hb m k (j + 1) _ _ (by omega) (by omega) (by rw [show ((j + 1 : Nat) : Int) - 1 = j from by omega]) (by rw [show ((j + 1 : Nat) : Int) - 1 = j from by omega])
theorem way_eq {d : List S51} (hv : vd d = true) {a b : Int} (ha : -1 ≤ a) (hab : a ≤ b) (hb : b < d.length) (k : Nat) (hk : 40 ≤ k) : waterhourref04_way.f k d a b = some (SL d b - SL d a, SH d b - SH d a) := by
  have hl32 := (vd_iff.1 hv).2.1
  have w1 : wrap64 (a + 1) = (((a + 1).toNat : Nat) : Int) := by unfold wrap64; omega
  unfold waterhourref04_way.f
  rw [w1]
  exact way_l0 hv a b hb (b - a).toNat k _ 0 0 (by omega) (by omega) (by rw [show (((a + 1).toNat : Nat) : Int) - 1 = a from by omega]; omega) (by rw [show (((a + 1).toNat : Nat) : Int) - 1 = a from by omega]; omega)
theorem Tells_eq {d : List S51} (hv : vd d = true) {a i : Int} (ha : -1 ≤ a) (ha' : a < d.length) (hi : -1 ≤ i) (hi' : i < d.length) (k : Nat) (hk : 40 ≤ k) :
    waterhourref04_Tells.f k d a i = some (if isK d a = true then (tlo d a i, thi d a i, true) else (0, 0, false)) := by
  have ba := SL_bound hv a
  have bi := SL_bound hv i
  have hx := atOf_bound hv ha'
  unfold waterhourref04_Tells.f tlo thi
  rw [rknown_eq hv ha']
  simp only [Option.bind_some]
  by_cases hk' : isK d a = true
  · rw [if_pos hk', if_pos hk']
    by_cases h : a ≤ i
    · rw [if_pos h, way_eq hv ha h hi' k hk]
      simp only [Option.bind_some, if_pos h]
      congr 2
      · unfold wrap64; omega
      · congr 1; unfold wrap64; omega
    · rw [if_neg h, way_eq hv hi (by omega) ha' k hk]
      simp only [Option.bind_some, if_neg h]
      congr 2
      · unfold wrap64; omega
      · congr 1; unfold wrap64; omega
  · rw [if_neg hk', if_neg hk']
/-- Can the two, known, not be so? -/
def pairC (d : List S51) (a b : Int) : Bool := isK d a && isK d b && cannotB d a b
theorem rcannot_eq {d : List S51} (hv : vd d = true) {a b : Int} (ha : -1 ≤ a) (hab : a < b) (hb : b < d.length) (k : Nat) (hk : 40 ≤ k) : waterhourref04_cannot.f k d a b = some (pairC d a b) := by
  unfold waterhourref04_cannot.f pairC cannotB
  rw [Tells_eq hv ha (by omega) (by omega) hb k hk, rknown_eq hv hb]
  simp only [Option.bind_some]
  by_cases h1 : isK d a = true
  · simp only [h1, if_true, Bool.true_and]
    by_cases h2 : isK d b = true
    · simp only [h2, if_true, Bool.true_and]
      unfold tlo thi
      simp only [if_pos (show a ≤ b from by omega)]
      by_cases h3 : (atOf d a).f0 + (SL d b - SL d a) > (atOf d b).f1
      · rw [if_pos h3, decide_eq_true (show (atOf d b).f1 < (atOf d a).f0 + (SL d b - SL d a) from h3), Bool.true_or]
      · rw [if_neg h3, decide_eq_false (show ¬ (atOf d b).f1 < (atOf d a).f0 + (SL d b - SL d a) from h3), Bool.false_or]
    · simp [h2]
  · simp [h1]

/-! ### the clash that is told -/
/-- x is what Clash tells of d: none, or the two with the least second one, and of these the greatest first one. -/
structure ClashSpec (d : List S51) (x : Int × Int × Bool) : Prop where
  none_ : x.2.2 = false → x = (0, 0, false) ∧ ∀ a b : Int, -1 ≤ a → a < b → b < d.length → pairC d a b = false
  some_ : x.2.2 = true → -1 ≤ x.1 ∧ x.1 < x.2.1 ∧ x.2.1 < d.length ∧ pairC d x.1 x.2.1 = true ∧ (∀ a b : Int, -1 ≤ a → a < b → b < x.2.1 → pairC d a b = false) ∧ ∀ a : Int, x.1 < a → a < x.2.1 → pairC d a x.2.1 = false
theorem ClashSpec.unique {d : List S51} {x y : Int × Int × Bool} (hx : ClashSpec d x) (hy : ClashSpec d y) : x = y := by
  obtain ⟨x1, x2, x3⟩ := x
  obtain ⟨y1, y2, y3⟩ := y
  have h1 := hx.none_
  have h2 := hx.some_
  have h3 := hy.none_
  have h4 := hy.some_
  simp only at h1 h2 h3 h4
  cases x3 <;> cases y3
  · rw [(h1 rfl).1, (h3 rfl).1]
  · obtain ⟨q1, q2, q3, q4, _⟩ := h4 rfl
    have := (h1 rfl).2 _ _ q1 q2 q3
    rw [q4] at this; cases this
  · obtain ⟨q1, q2, q3, q4, _⟩ := h2 rfl
    have := (h3 rfl).2 _ _ q1 q2 q3
    rw [q4] at this; cases this
  · obtain ⟨q1, q2, q3, q4, q5, q6⟩ := h2 rfl
    obtain ⟨r1, r2, r3, r4, r5, r6⟩ := h4 rfl
    have e2 : x2 = y2 := by
      rcases Int.lt_trichotomy x2 y2 with h | h | h
      · have := r5 _ _ q1 q2 h; rw [q4] at this; cases this
      · exact h
      · have := q5 _ _ r1 r2 h; rw [r4] at this; cases this
    subst e2
    have e1 : x1 = y1 := by
      rcases Int.lt_trichotomy x1 y1 with h | h | h
      · have := q6 _ h r2; rw [r4] at this; cases this
      · exact h
      · have := r6 _ h q2; rw [q4] at this; cases this
    subst e1
    rfl
theorem Clash_l1 {d : List S51} (hv : vd d = true) (b : Nat) (hb : b < d.length) : ∀ (m k : Nat) (a : Int), a + 1 = m → a < b → m + 60 ≤ k →
    (∃ a' : Int, -1 ≤ a' ∧ a' ≤ a ∧ pairC d a' b = true ∧ (∀ a'' : Int, a' < a'' → a'' ≤ a → pairC d a'' b = false) ∧ waterhourref04_Clash.l1 k d b a = some (a', (b : Int), true, 0)) ∨
    ((∀ a' : Int, -1 ≤ a' → a' ≤ a → pairC d a' b = false) ∧ waterhourref04_Clash.l1 k d b a = waterhourref04_Clash.l0 (k - m - 2) d (wrap64 ((b : Int) + 1)))
  | 0, k, a, ha, hab, hk => by
    obtain ⟨k, rfl⟩ : ∃ m, k = m + 2 := ⟨k - 2, by omega⟩
    have ha1 : a = -1 := by omega
    subst ha1
    simp only [waterhourref04_Clash.l1]
    rw [if_pos (by omega), rcannot_eq hv (by omega) hab (by omega) (k + 1) (by omega)]
    simp only [Option.bind_some]
    by_cases hp : pairC d (-1) b = true
    · rw [if_pos hp]
      exact .inl ⟨-1, by omega, by omega, hp, fun a'' h1 h2 => by omega, rfl⟩
    · rw [if_neg hp, if_neg (by unfold wrap64; omega)]
      exact .inr ⟨fun a' h1 h2 => by obtain rfl : a' = -1 := by omega
                                     exact Bool.eq_false_iff.2 hp, rfl⟩
  | m + 1, k, a, ha, hab, hk => by
    obtain ⟨k, rfl⟩ : ∃ m, k = m + 1 := ⟨k - 1, by omega⟩
    have hl32 := (vd_iff.1 hv).2.1
    simp only [waterhourref04_Clash.l1]
    rw [if_pos (by omega), rcannot_eq hv (by omega) hab (by omega) k (by omega)]
    simp only [Option.bind_some]
    by_cases hp : pairC d a b = true
    · rw [if_pos hp]
      exact .inl ⟨a, by omega, by omega, hp, fun a'' h1 h2 => by omega, rfl⟩
    · rw [if_neg hp, show wrap64 (a - 1) = a - 1 from by unfold wrap64; omega]
      rcases Clash_l1 hv b hb m k (a - 1) (by omega) (by omega) (by omega) with ⟨a', q1, q2, q3, q4, q5⟩ | ⟨q1, q2⟩
      · refine .inl ⟨a', q1, by omega, q3, fun a'' h1 h2 => ?_, q5⟩
        rcases Int.lt_or_le a'' a with h | h
        · exact q4 a'' h1 (by omega)
        · obtain rfl : a'' = a := by omega
          exact Bool.eq_false_iff.2 hp
      · refine .inr ⟨fun a' h1 h2 => ?_, ?_⟩
        · rcases Int.lt_or_le a' a with h | h
          · exact q1 a' h1 (by omega)
          · obtain rfl : a' = a := by omega
            exact Bool.eq_false_iff.2 hp
        · rw [q2, show k - m - 2 = k + 1 - (m + 1) - 2 from by omega]
theorem Clash_l0 {d : List S51} (hv : vd d = true) : ∀ (m k b : Nat), d.length = b + m → m * 40 + 200 ≤ k → (∀ x y : Int, -1 ≤ x → x < y → y < b → pairC d x y = false) →
    ∃ x : Int × Int × Bool, ClashSpec d x ∧ waterhourref04_Clash.l0 k d b = some (x.1, x.2.1, x.2.2, 0)
  | 0, k, b, hb, hk, hno => by
    obtain ⟨k, rfl⟩ : ∃ m, k = m + 1 := ⟨k - 1, by omega⟩
    simp only [waterhourref04_Clash.l0]
    rw [if_neg (by omega)]
    refine ⟨(0, 0, false), ⟨fun _ => ⟨rfl, fun x y h1 h2 h3 => hno x y h1 h2 (by omega)⟩, fun h => by cases h⟩, rfl⟩
  | m + 1, k, b, hb, hk, hno => by
    obtain ⟨k, rfl⟩ : ∃ m, k = m + 1 := ⟨k - 1, by omega⟩
    have hl32 := (vd_iff.1 hv).2.1
    simp only [waterhourref04_Clash.l0]
    rw [if_pos (by omega), show wrap64 ((b : Int) - 1) = (b : Int) - 1 from by unfold wrap64; omega]
    rcases Clash_l1 hv b (by omega) b k ((b : Int) - 1) (by omega) (by omega) (by omega) with ⟨a', q1, q2, q3, q4, q5⟩ | ⟨q1, q2⟩
    · refine ⟨(a', b, true), ⟨(fun h => by cases h), fun _ => ⟨q1, by simp only; omega, by simp only; omega, q3, hno, fun a h1 h2 => q4 a h1 ?_⟩⟩, q5⟩
      simp only at h2
      omega
    · rw [q2, show wrap64 ((b : Int) + 1) = ((b + 1 : Nat) : Int) from by unfold wrap64; omega]
      refine Clash_l0 hv m (k - b - 2) (b + 1) (by omega) (by omega) (fun x y h1 h2 h3 => ?_)
      rcases Int.lt_or_le y b with h | h
      · exact hno x y h1 h2 h
      · obtain rfl : y = b := by omega
        exact q1 x h1 (by omega)
/-- .. of the program's sequences. -/
theorem clashIn_spec {d : List S51} (b : Int) (hb : isK d b = true) (hbl : b < d.length) : ∀ k : Nat, k ≤ d.length + 1 →
    match clashIn d b (upK d true k) with
    | some x => x.1 < b ∧ pairC d x.1 b = true ∧ ∀ a : Int, x.1 < a → a < b → pairC d a b = false
    | none => ∀ a : Int, -1 ≤ a → (d.length : Int) - 1 - k < a → a < b → pairC d a b = false
  | 0, _ => by
    show ∀ a : Int, -1 ≤ a → (d.length : Int) - 1 - (0 : Nat) < a → a < b → pairC d a b = false
    intro a h1 h2 h3
    omega
  | k + 1, hk => by
    have ih := clashIn_spec b hb hbl k (by omega)
    have hidx : idx d true k = (d.length : Int) - 1 - k := rfl
    by_cases hK : isK d (idx d true k) = true
    · have hr : -1 ≤ idx d true k ∧ idx d true k < d.length ∧ isK d (idx d true k) = true := ⟨by omega, by omega, hK⟩
      rw [upK_yes hr]
      cases hc : clashIn d b (upK d true k) with
      | some x =>
        rw [hc] at ih
        have : clashIn d b (upK d true k ++ [⟨idx d true k, hr⟩]) = some x := by unfold clashIn at hc ⊢; rw [List.find?_append, hc]; rfl
        rw [this]; exact ih
      | none =>
        rw [hc] at ih
        rw [clashIn_snoc d b _ _ hc]
        by_cases hh : hit d b (idx d true k) = true
        · rw [if_pos hh]
          unfold hit at hh
          rw [Bool.and_eq_true, decide_eq_true_eq] at hh
          refine ⟨hh.1, ?_, fun a h1 h2 => ih a (by simp only at h1; omega) (by simp only at h1; omega) h2⟩
          show pairC d (idx d true k) b = true
          unfold pairC
          rw [hK, hb, hh.2]; rfl
        · rw [if_neg hh]
          intro a h1 h2 h3
          rcases Int.lt_or_le ((d.length : Int) - 1 - k) a with h | h
          · exact ih a h1 h h3
          · obtain rfl : a = idx d true k := by omega
            unfold hit at hh
            rw [decide_eq_true h3, Bool.true_and] at hh
            unfold pairC
            rw [Bool.eq_false_iff.2 hh, Bool.and_false]
    · rw [upK_no (Bool.eq_false_iff.2 hK)]
      cases hc : clashIn d b (upK d true k) with
      | some x => rw [hc] at ih; exact ih
      | none =>
        rw [hc] at ih
        intro a h1 h2 h3
        rcases Int.lt_or_le ((d.length : Int) - 1 - k) a with h | h
        · exact ih a h1 h h3
        · obtain rfl : a = idx d true k := by omega
          unfold pairC
          rw [Bool.eq_false_iff.2 hK]; rfl
theorem clashAll_spec {d : List S51} : ∀ k : Nat, k ≤ d.length + 1 →
    match clashAll d (upK d false k) with
    | some x => -1 ≤ x.1 ∧ x.1 < x.2 ∧ x.2 < d.length ∧ pairC d x.1 x.2 = true ∧ (∀ a b : Int, -1 ≤ a → a < b → b < x.2 → pairC d a b = false) ∧ ∀ a : Int, x.1 < a → a < x.2 → pairC d a x.2 = false
    | none => ∀ a b : Int, -1 ≤ a → a < b → b < (k : Int) - 1 → pairC d a b = false
  | 0, _ => by
    show ∀ a b : Int, -1 ≤ a → a < b → b < ((0 : Nat) : Int) - 1 → pairC d a b = false
    intro a b h1 h2 h3
    omega
  | k + 1, hk => by
    have ih := clashAll_spec (d := d) k (by omega)
    have hidx : idx d false k = (k : Int) - 1 := rfl
    by_cases hK : isK d (idx d false k) = true
    · have hr : -1 ≤ idx d false k ∧ idx d false k < d.length ∧ isK d (idx d false k) = true := ⟨by omega, by omega, hK⟩
      rw [upK_yes hr]
      cases hc : clashAll d (upK d false k) with
      | some x =>
        rw [hc] at ih
        have : clashAll d (upK d false k ++ [⟨idx d false k, hr⟩]) = some x := by unfold clashAll at hc ⊢; rw [List.findSome?_append, hc]; rfl
        rw [this]; exact ih
      | none =>
        rw [hc] at ih
        rw [clashAll_snoc d _ _ hc]
        have hin := clashIn_spec (d := d) (idx d false k) hK (by omega) (d.length + 1) (by omega)
        cases hci : clashIn d (idx d false k) (upK d true (d.length + 1)) with
        | some y =>
          rw [hci] at hin
          exact ⟨y.2.1, hin.1, by simp only; omega, hin.2.1, fun a b h1 h2 h3 => ih a b h1 h2 (by simp only at h3; omega), hin.2.2⟩
        | none =>
          rw [hci] at hin
          show ∀ a b : Int, -1 ≤ a → a < b → b < ((k + 1 : Nat) : Int) - 1 → pairC d a b = false
          intro a b h1 h2 h3
          rcases Int.lt_or_le b ((k : Int) - 1) with h | h
          · exact ih a b h1 h2 h
          · obtain rfl : b = idx d false k := by omega
            exact hin a h1 (by omega) h2
    · rw [upK_no (Bool.eq_false_iff.2 hK)]
      cases hc : clashAll d (upK d false k) with
      | some x => rw [hc] at ih; exact ih
      | none =>
        rw [hc] at ih
        intro a b h1 h2 h3
        rcases Int.lt_or_le b ((k : Int) - 1) with h | h
        · exact ih a b h1 h2 h
        · obtain rfl : b = idx d false k := by omega
          unfold pairC
          rw [Bool.eq_false_iff.2 hK, Bool.and_false]; rfl
theorem clashOf_spec (d : List S51) : ClashSpec d (clashOf d) := by
  have h := clashAll_spec (d := d) (d.length + 1) (Nat.le_refl _)
  unfold clashOf
  cases hc : clashAll d (upK d false (d.length + 1)) with
  | some x => rw [hc] at h; exact ⟨(fun e => by cases e), (fun _ => h)⟩
  | none => rw [hc] at h; exact ⟨(fun _ => ⟨rfl, fun a b h1 h2 h3 => h a b h1 h2 (by omega)⟩), (fun e => by cases e)⟩
theorem rClash_eq (d : List S51) (k : Nat) (hk : 2000 ≤ k) : waterhourref04_Clash.f k d = some (if vd d = true then ((clashOf d).1, (clashOf d).2.1, (clashOf d).2.2, 0) else (0, 0, false, 40)) := by
  unfold waterhourref04_Clash.f
  rw [Valid_eq d k (by omega)]
  simp only [Option.bind_some]
  by_cases hv : vd d = true
  · rw [if_pos hv, if_pos hv]
    obtain ⟨x, hx, he⟩ := Clash_l0 hv d.length k 0 (by omega) (by have := (vd_iff.1 hv).2.1; omega) (fun x y h1 h2 h3 => by omega)
    rw [show ((0 : Nat) : Int) = 0 from rfl] at he
    rw [he, hx.unique (clashOf_spec d)]
  · rw [if_neg hv, if_neg hv]
theorem rPossible_eq (d : List S51) (k : Nat) (hk : 2000 ≤ k) : waterhourref04_Possible.f k d = some (vd d && !(clashOf d).2.2, if vd d = true then 0 else 40) := by
  unfold waterhourref04_Possible.f
  rw [rClash_eq d k hk]
  by_cases hv : vd d = true
  · simp [hv]
  · simp [hv]
end Go.Proofs.YtgiihjcpgjpkcaaDoor.Q
