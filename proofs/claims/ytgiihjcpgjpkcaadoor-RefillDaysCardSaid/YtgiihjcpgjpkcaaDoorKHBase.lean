/- Contracts walked by hand and lemmas for them, as far as RefillDays needs them. -/
import Derived.Test.YtgiihjcpgjpkcaaDoorKHKnow
namespace Go.Proofs.YtgiihjcpgjpkcaaDoor.Q
open Go.RowKit Go.Proofs.YtgiihjcpgjpkcaaDoorW.PrintWords Go.Proofs.YtgiihjcpgjpkcaaDoorW.PrintLast Go.Proofs.YtgiihjcpgjpkcaaDoorW.PrintMore
def evOk (e : S51) : Bool := decide (0 ≤ e.f0.f0 ∧ e.f0.f0 ≤ e.f0.f1 ∧ e.f0.f1 ≤ 524288 ∧ ((0 ≤ e.f1.f0 ∧ e.f1.f0 ≤ e.f1.f1 ∧ e.f1.f1 ≤ 16777216) ∨ (e.f1.f0 = 1 ∧ e.f1.f1 = 0)))
def vd (d : List S51) : Bool := decide (1 ≤ d.length) && (decide (d.length ≤ 32) && d.all evOk)
def sLo : List S51 → Int
  | [] => 0
  | e :: l => e.f0.f0 + sLo l
def sHi : List S51 → Int
  | [] => 0
  | e :: l => e.f0.f1 + sHi l
def SL (d : List S51) (i : Int) : Int := sLo (d.take (i + 1).toNat)
def SH (d : List S51) (i : Int) : Int := sHi (d.take (i + 1).toNat)
def tlo (d : List S51) (j i : Int) : Int := if j ≤ i then (atOf d j).f0 + (SL d i - SL d j) else (atOf d j).f0 - (SH d j - SH d i)
def thi (d : List S51) (j i : Int) : Int := if j ≤ i then (atOf d j).f1 + (SH d i - SH d j) else (atOf d j).f1 - (SL d j - SL d i)
def nar (d : List S51) (i : Int) (p : Int × Int) (j : Ix d) : Int × Int := (mx p.1 (tlo d j.1 i), mn p.2 (thi d j.1 i))
def narAll (d : List S51) (i : Int) (l : List (Ix d)) : Int × Int := l.foldl (nar d i) (0, 1099511627776)
theorem narAll_snoc (d : List S51) (i : Int) (l : List (Ix d)) (x : Ix d) : narAll d i (l ++ [x]) = nar d i (narAll d i l) x := by simp [narAll]
def timeOf (d : List S51) (i : Int) : Int × Int := narAll d i (upK d false (d.length + 1))
theorem sLo_append (l m : List S51) : sLo (l ++ m) = sLo l + sLo m := by
  induction l with
  | nil => simp [sLo]
  | cons e l ih => simp only [List.cons_append, sLo, ih]; omega
theorem sHi_append (l m : List S51) : sHi (l ++ m) = sHi l + sHi m := by
  induction l with
  | nil => simp [sHi]
  | cons e l ih => simp only [List.cons_append, sHi, ih]; omega
theorem evOk_iff {e : S51} : evOk e = true ↔ 0 ≤ e.f0.f0 ∧ e.f0.f0 ≤ e.f0.f1 ∧ e.f0.f1 ≤ 524288 ∧ ((0 ≤ e.f1.f0 ∧ e.f1.f0 ≤ e.f1.f1 ∧ e.f1.f1 ≤ 16777216) ∨ (e.f1.f0 = 1 ∧ e.f1.f1 = 0)) := by simp [evOk]
theorem vd_iff {d : List S51} : vd d = true ↔ 1 ≤ d.length ∧ d.length ≤ 32 ∧ ∀ e ∈ d, evOk e = true := by simp [vd]
theorem sums_bound : ∀ l : List S51, (∀ e ∈ l, evOk e = true) → 0 ≤ sLo l ∧ sLo l ≤ sHi l ∧ sHi l ≤ 524288 * l.length
  | [], _ => by simp [sLo, sHi]
  | e :: l, h => by
    have ih := sums_bound l (fun x hx => h x (List.mem_cons_of_mem _ hx))
    have := evOk_iff.1 (h e List.mem_cons_self)
    simp only [sLo, sHi, List.length_cons]
    omega
theorem rd_mem {d : List S51} {i : Int} (h0 : 0 ≤ i) (h1 : i < d.length) : rd_T51 d i ∈ d := by
  unfold rd_T51
  have : i.toNat < d.length := by omega
  rw [List.getD_eq_getElem?_getD, List.getElem?_eq_getElem this]
  exact List.getElem_mem this
theorem rd_drop (y : List S51) (j : Nat) (h : j < y.length) : y.drop j = rd_T51 y (j : Int) :: y.drop (j + 1) := by
  rw [List.drop_eq_getElem_cons h]
  congr 1
  unfold rd_T51
  rw [Int.toNat_natCast, List.getD_eq_getElem?_getD, List.getElem?_eq_getElem h]
  rfl
theorem behind_l0 (y : List S51) (hy : ∀ e ∈ y, evOk e = true) (hl : y.length ≤ 32) : ∀ (m k j : Nat) (s t : Int), y.length = j + m → m < k → s = sLo (y.take j) → t = sHi (y.take j) →
    refill_behind.l0 k y y.length j s t = some (sLo y, sHi y)
  | 0, k, j, s, t, hj, hk, hs, ht => by
    obtain ⟨k, rfl⟩ : ∃ m, k = m + 1 := ⟨k - 1, by omega⟩
    simp only [refill_behind.l0]
    rw [if_neg (by omega), hs, ht, List.take_of_length_le (by omega)]
  | m + 1, k, j, s, t, hj, hk, hs, ht => by
    obtain ⟨k, rfl⟩ : ∃ m, k = m + 1 := ⟨k - 1, by omega⟩
    have hlt : j < y.length := by omega
    have e1 : y.take (j + 1) = y.take j ++ [rd_T51 y (j : Int)] := by
      rw [List.take_succ_eq_append_getElem hlt]
      congr 2
      unfold rd_T51
      rw [Int.toNat_natCast, List.getD_eq_getElem?_getD, List.getElem?_eq_getElem hlt]
      rfl
    have b := sums_bound (y.take (j + 1)) (fun e he => hy e (List.mem_of_mem_take he))
    have b0 := sums_bound (y.take j) (fun e he => hy e (List.mem_of_mem_take he))
    have hlen : (y.take (j + 1)).length ≤ 32 := by rw [List.length_take]; omega
    have hlo : sLo (y.take (j + 1)) = s + (rd_T51 y (j : Int)).f0.f0 := by rw [e1, sLo_append, hs]; simp [sLo]
    have hhi : sHi (y.take (j + 1)) = t + (rd_T51 y (j : Int)).f0.f1 := by rw [e1, sHi_append, ht]; simp [sHi]
    simp only [refill_behind.l0]
    rw [if_pos (by omega), if_pos (by omega), if_pos (by omega)]
    have w1 : wrap64 ((j : Int) + 1) = ((j + 1 : Nat) : Int) := by unfold wrap64; omega
    have w2 : wrap64 (s + (rd_T51 y (j : Int)).f0.f0) = sLo (y.take (j + 1)) := by rw [hlo]; rw [hlo] at b; unfold wrap64; omega
    have w3 : wrap64 (t + (rd_T51 y (j : Int)).f0.f1) = sHi (y.take (j + 1)) := by rw [hhi]; rw [hhi] at b; unfold wrap64; omega
    rw [w1, w2, w3]
    exact behind_l0 y hy hl m k (j + 1) _ _ (by omega) (by omega) rfl rfl
theorem take_drop_sums (d : List S51) {a b : Nat} (h : a ≤ b) : sLo ((d.take b).drop a) = sLo (d.take b) - sLo (d.take a) ∧ sHi ((d.take b).drop a) = sHi (d.take b) - sHi (d.take a) := by
  have e : d.take b = d.take a ++ (d.take b).drop a := by
    conv => lhs; rw [← List.take_append_drop a (d.take b)]
    rw [List.take_take, Nat.min_eq_left h]
  constructor
  · have := congrArg sLo e
    rw [sLo_append] at this
    omega
  · have := congrArg sHi e
    rw [sHi_append] at this
    omega
theorem behind_eq {d : List S51} (hv : vd d = true) {a b : Int} (ha : -1 ≤ a) (hab : a ≤ b) (hb : b < d.length) (k : Nat) (hk : 33 ≤ k) : refill_behind.f k d a b = some (SL d b - SL d a, SH d b - SH d a) := by
  obtain ⟨_, hl, hall⟩ := vd_iff.1 hv
  unfold refill_behind.f
  have w1 : wrap64 (a + 1) = a + 1 := by unfold wrap64; omega
  have w2 : wrap64 (b + 1) = b + 1 := by unfold wrap64; omega
  rw [w1, w2, if_pos (by omega), if_pos (by omega), if_pos (by omega)]
  simp only [Option.bind_some]
  have hs := take_drop_sums d (a := (a + 1).toNat) (b := (b + 1).toNat) (by omega)
  have hlen : ((d.take (b + 1).toNat).drop (a + 1).toNat).length ≤ 32 := by rw [List.length_drop, List.length_take]; omega
  have := behind_l0 ((d.take (b + 1).toNat).drop (a + 1).toNat) (fun e he => hall e (List.mem_of_mem_take (List.mem_of_mem_drop he))) hlen _ k 0 0 0 (Nat.zero_add _).symm (by omega) rfl rfl
  rw [hs.1, hs.2] at this
  exact this
theorem SL_bound {d : List S51} (hv : vd d = true) (i : Int) : 0 ≤ SL d i ∧ SL d i ≤ SH d i ∧ SH d i ≤ 16777216 := by
  obtain ⟨_, hl, hall⟩ := vd_iff.1 hv
  have := sums_bound (d.take (i + 1).toNat) (fun e he => hall e (List.mem_of_mem_take he))
  have hlen : (d.take (i + 1).toNat).length ≤ 32 := by rw [List.length_take]; omega
  unfold SL SH
  omega
theorem atOf_bound {d : List S51} (hv : vd d = true) {i : Int} (hi : i < d.length) : 0 ≤ (atOf d i).f0 ∧ (atOf d i).f0 ≤ 16777216 ∧ 0 ≤ (atOf d i).f1 ∧ (atOf d i).f1 ≤ 16777216 ∧ (isK d i = true ↔ (atOf d i).f0 ≤ (atOf d i).f1) := by
  obtain ⟨_, hl, hall⟩ := vd_iff.1 hv
  unfold atOf isK
  by_cases h0 : i < 0
  · simp [h0]
  · rw [if_neg h0, if_neg h0]
    have := evOk_iff.1 (hall _ (rd_mem (d := d) (i := i) (by omega) hi))
    simp
    omega
theorem tells_eq {d : List S51} (hv : vd d = true) {a i : Int} (ha : -1 ≤ a) (ha' : a < d.length) (hi : -1 ≤ i) (hi' : i < d.length) (k : Nat) (hk : 33 ≤ k) :
    refill_tells.f k d a (atOf d a).f0 (atOf d a).f1 i = some (tlo d a i, thi d a i) := by
  have ba := SL_bound hv a
  have bi := SL_bound hv i
  have hx := atOf_bound hv ha'
  unfold refill_tells.f tlo thi
  by_cases h : a ≤ i
  · rw [if_pos h, behind_eq hv ha h hi' k hk]
    simp only [Option.bind_some, if_pos h]
    congr 2 <;> (unfold wrap64; omega)
  · rw [if_neg h, behind_eq hv hi (by omega) ha' k hk]
    simp only [Option.bind_some, if_neg h]
    congr 2 <;> (unfold wrap64; omega)
theorem tell_bound {d : List S51} (hv : vd d = true) {a : Int} (ha' : a < d.length) (i : Int) : -33554432 ≤ tlo d a i ∧ tlo d a i ≤ 33554432 ∧ -33554432 ≤ thi d a i ∧ thi d a i ≤ 33554432 := by
  have ba := SL_bound hv a
  have bi := SL_bound hv i
  have hx := atOf_bound hv ha'
  unfold tlo thi
  split <;> omega
end Go.Proofs.YtgiihjcpgjpkcaaDoor.Q
