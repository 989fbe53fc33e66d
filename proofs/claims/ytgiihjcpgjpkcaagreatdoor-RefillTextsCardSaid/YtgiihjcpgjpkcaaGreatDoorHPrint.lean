/- What Print comes to, the program's and the reference's: the text of a valid day; no program in sight. -/
import Derived.Lib.SmallJoins
import Derived.Test.YtgiihjcpgjpkcaaGreatDoorHTxt
import Derived.Test.YtgiihjcpgjpkcaaGreatDoorHPure1
import Derived.Test.YtgiihjcpgjpkcaaGreatDoorQC
import Derived.Test.YtgiihjcpgjpkcaaGreatDoorQM
import Derived.Test.YtgiihjcpgjpkcaaGreatDoorQN
import Derived.Test.YtgiihjcpgjpkcaaGreatDoorQI
import Derived.Test.YtgiihjcpgjpkcaaGreatDoorQTA
namespace Go.Proofs.YtgiihjcpgjpkcaaGreatDoor.Q
open Go.RowKit Go.Lib Go.Proofs.YtgiihjcpgjpkcaaGreatDoorW.PrintWords Go.Proofs.YtgiihjcpgjpkcaaGreatDoorW.PrintLast Go.Proofs.YtgiihjcpgjpkcaaGreatDoorW.PrintMore
set_option linter.unusedVariables false
set_option linter.unusedSimpArgs false

def tb (l : List UInt8) : ByteArray := ⟨l.toArray⟩
theorem tb_data (l : List UInt8) : (tb l).data.toList = l := by simp [tb]
theorem tb_size (l : List UInt8) : (tb l).size = l.length := by
  show l.toArray.size = _
  simp
theorem tb_app (a b : List UInt8) : tb a ++ tb b = tb (a ++ b) := by
  apply Go.WideShapes.bytes_inj
  rw [tb_data]
  simp [tb]
theorem tb_of (s : ByteArray) : s = tb s.data.toList := by
  apply Go.WideShapes.bytes_inj
  rw [tb_data]
theorem tb_lit (c : UInt8) : (⟨#[c]⟩ : ByteArray) = tb [c] := rfl
theorem tb_nil : (⟨#[]⟩ : ByteArray) = tb [] := rfl
theorem tb_inj {a b : List UInt8} (h : tb a = tb b) : a = b := by
  rw [← tb_data a, h, tb_data]

def evW (e : S37) : List UInt8 := evT e.f0.f0.toNat e.f0.f1.toNat e.f1.f0.toNat e.f1.f1.toNat (decide (e.f1.f0 ≤ e.f1.f1))
def dayT (d : List S37) : List UInt8 := join (d.map evW) [32]
theorem evW_len {e : S37} (h : evOk e = true) : (evW e).length ≤ 35 := by
  have := evOk_iff.1 h
  exact evT_len _ (by omega) (by omega) (by omega) (by omega)
theorem dayT_len' {d : List S37} (h : ∀ e ∈ d, evOk e = true) (hl : d.length ≤ 32) : (dayT d).length ≤ 1152 := by
  have := join_len 32 35 (d.map evW) (fun x hx => by
    obtain ⟨e, he, rfl⟩ := List.mem_map.1 hx
    exact evW_len (h e he))
  rw [List.length_map] at this
  unfold dayT
  have := Nat.mul_le_mul_right 36 hl
  omega
theorem join_snoc (c : UInt8) (w : List UInt8) : ∀ ws : List (List UInt8), ws ≠ [] → join (ws ++ [w]) [c] = join ws [c] ++ c :: w
  | [], h => absurd rfl h
  | [x], _ => by
    rw [List.singleton_append, join_two, join_one, join_one]
  | x :: y :: r, _ => by
    rw [List.cons_append, List.cons_append, join_two, join_two, ← List.cons_append, join_snoc c w (y :: r) (by simp), List.append_assoc, List.cons_append]

theorem Itoa_eq {n : Int} (h0 : 0 ≤ n) (h1 : n ≤ 16777216) : strconv_Itoa.f n = some (tb (decDigits n.toNat)) := by
  unfold strconv_Itoa.f
  rw [if_pos ⟨by omega, by omega⟩]
  unfold itoa
  rw [if_neg (by omega)]
  rfl
theorem dec_len_le {n : Int} (h0 : 0 ≤ n) (h1 : n ≤ 16777216) : (decDigits n.toNat).length ≤ 8 := dec_len8 (by omega)
theorem span_eq {a b : Int} (ha : 0 ≤ a) (ha' : a ≤ 16777216) (hb : 0 ≤ b) (hb' : b ≤ 16777216) : refill_span.f a b = some (tb (spanT a.toNat b.toNat)) := by
  have h1 := dec_len_le ha ha'
  have h2 := dec_len_le hb hb'
  unfold refill_span.f
  rw [Itoa_eq ha ha', Itoa_eq hb hb']
  simp only [Option.bind_some, tb_lit, tb_app, tb_size, List.length_append, List.length_cons, List.length_nil]
  rw [if_pos (by omega), if_pos (by omega)]
  simp [spanT]
theorem Join_eq (ws : List (List UInt8)) (h : ws.length ≤ 1000) (hl : (join ws [32]).length ≤ 140737488355328) : strings_Join.f (ws.map tb) (⟨#[32]⟩ : ByteArray) = some (tb (join ws [32])) := by
  unfold strings_Join.f
  have e : (ws.map tb).map (·.data.toList) = ws := by
    rw [List.map_map]
    conv => rhs; rw [← List.map_id ws]
    exact List.map_congr_left fun x _ => tb_data x
  have e2 : (⟨#[32]⟩ : ByteArray).data.toList = [32] := rfl
  rw [e, e2, List.length_map, if_pos ⟨h, hl⟩]
  rfl
theorem snoc_take (d : List S37) (j : Nat) (h : j < d.length) : d.take (j + 1) = d.take j ++ [rd_T37 d (j : Int)] := by
  rw [List.take_succ_eq_append_getElem h]
  congr 2
  unfold rd_T37
  rw [Int.toNat_natCast, List.getD_eq_getElem?_getD, List.getElem?_eq_getElem h]
  rfl
theorem rd_memN (d : List S37) (j : Nat) (h : j < d.length) : rd_T37 d (j : Int) ∈ d := by
  unfold rd_T37
  rw [Int.toNat_natCast, List.getD_eq_getElem?_getD, List.getElem?_eq_getElem h]
  exact List.getElem_mem h

theorem Print_l0 (d : List S37) (hv : vd d = true) : ∀ (m k j : Nat), d.length = j + m → m < k → refill_Print.l0 k (((d.take j).map evW).map tb) d d.length j = some (tb (dayT d), 0)
  | 0, k, j, hj, hk => by
    obtain ⟨k, rfl⟩ : ∃ m, k = m + 1 := ⟨k - 1, by omega⟩
    obtain ⟨_, hl, ho⟩ := vd_iff.1 hv
    have hlen := dayT_len' ho hl
    simp only [refill_Print.l0]
    rw [if_neg (by omega), List.take_of_length_le (by omega), Join_eq _ (by rw [List.length_map]; omega) (by unfold dayT at hlen; omega)]
    rfl
  | m + 1, k, j, hj, hk => by
    obtain ⟨k, rfl⟩ : ∃ m, k = m + 1 := ⟨k - 1, by omega⟩
    obtain ⟨_, hl, ho⟩ := vd_iff.1 hv
    have hj' : j < d.length := by omega
    have ih := Print_l0 d hv m k (j + 1) (by omega) (by omega)
    have he := evOk_iff.1 (ho _ (rd_memN d j hj'))
    have w1 : wrap64 ((j : Int) + 1) = ((j + 1 : Nat) : Int) := by unfold wrap64; omega
    have hlt : (((d.take j).map evW).map tb).length < 8796093022208 := by rw [List.length_map, List.length_map, List.length_take]; omega
    rw [snoc_take d j hj', List.map_append, List.map_append] at ih
    simp only [refill_Print.l0, refill_unknown.f, Option.bind_some]
    rw [if_pos (by omega), if_pos (by omega), if_pos (by omega), w1]
    generalize rd_T37 d (j : Int) = e at he ih
    obtain ⟨h1, h2, h3, h4⟩ := he
    rw [span_eq (by omega) (by omega) (by omega) (by omega)]
    simp only [Option.bind_some]
    rcases h4 with ⟨h4, h5, h6⟩ | ⟨h4, h5⟩
    · have hs := spanT_len (a := e.f1.f0.toNat) (b := e.f1.f1.toNat) (by omega) (by omega)
      have hs' := spanT_len (a := e.f0.f0.toNat) (b := e.f0.f1.toNat) (by omega) (by omega)
      rw [if_pos (by simp; omega), span_eq h4 (by omega) (by omega) h6]
      simp only [Option.bind_some, tb_lit, tb_app, tb_size, List.length_append, List.length_cons, List.length_nil]
      rw [if_pos (by omega), if_pos (by omega), if_pos hlt]
      have hw : evW e = spanT e.f0.f0.toNat e.f0.f1.toNat ++ ([64] ++ spanT e.f1.f0.toNat e.f1.f1.toNat) := by
        unfold evW evT
        rw [decide_eq_true h5, if_pos rfl]
        rfl
      rw [← hw]
      exact ih
    · rw [if_neg (by simp [h4, h5]), if_pos hlt]
      have hw : evW e = spanT e.f0.f0.toNat e.f0.f1.toNat := by
        unfold evW evT
        rw [decide_eq_false (by omega), if_neg (by decide), List.append_nil]
      rw [← hw]
      exact ih
theorem Print_eq (d : List S37) (k : Nat) (hk : 40 ≤ k) : refill_Print.f k d = some (if vd d = true then (tb (dayT d), 0) else (tb [], 40)) := by
  unfold refill_Print.f
  rw [Check_eq d k hk]
  by_cases hv : vd d = true
  · rw [if_pos hv, if_pos hv]
    simp only [Option.bind_some, if_true]
    have := Print_l0 d hv d.length k 0 (by omega) (by have := (vd_iff.1 hv).2.1; omega)
    rw [Int.natCast_zero] at this
    exact this
  · rw [if_neg hv, if_neg hv]
    simp only [Option.bind_some]
    rw [if_neg (by decide)]
    rfl

theorem minutes_eq (a b most : Int) : waterhourref04_minutes.f a b most = some (decide (0 ≤ a ∧ a ≤ b ∧ b ≤ most)) := by
  unfold waterhourref04_minutes.f
  by_cases h1 : a ≥ 0
  · rw [if_pos h1]
    by_cases h2 : a ≤ b
    · rw [if_pos h2]
      by_cases h3 : b ≤ most
      · rw [decide_eq_true h3, decide_eq_true (show _ ∧ _ ∧ _ from ⟨h1, h2, h3⟩)]
      · rw [decide_eq_false h3, decide_eq_false (fun h => h3 h.2.2)]
    · rw [if_neg h2, decide_eq_false (fun h => h2 h.2.1)]
  · rw [if_neg h1, decide_eq_false (fun h => h1 h.1)]
theorem Valid_l0 (d : List S37) (hl : d.length ≤ 32) : ∀ (m k j : Nat), d.length = j + m → m < k → waterhourref04_Valid.l0 k d j = some ((d.drop j).all evOk)
  | 0, k, j, hj, hk => by
    obtain ⟨k, rfl⟩ : ∃ m, k = m + 1 := ⟨k - 1, by omega⟩
    simp only [waterhourref04_Valid.l0]
    rw [if_neg (by omega), List.drop_of_length_le (by omega)]
    rfl
  | m + 1, k, j, hj, hk => by
    obtain ⟨k, rfl⟩ : ∃ m, k = m + 1 := ⟨k - 1, by omega⟩
    have ih := Valid_l0 d hl m k (j + 1) (by omega) (by omega)
    have w1 : wrap64 ((j : Int) + 1) = ((j + 1 : Nat) : Int) := by unfold wrap64; omega
    simp only [waterhourref04_Valid.l0]
    rw [if_pos (by omega), if_pos (by omega), rd_drop d j (by omega), List.all_cons]
    simp only [minutes_eq, Option.bind_some]
    rw [w1, ih]
    generalize rd_T37 d (j : Int) = e
    by_cases h1 : 0 ≤ e.f0.f0 ∧ e.f0.f0 ≤ e.f0.f1 ∧ e.f0.f1 ≤ 524288
    · rw [if_pos (decide_eq_true h1)]
      by_cases h3 : 0 ≤ e.f1.f0 ∧ e.f1.f0 ≤ e.f1.f1 ∧ e.f1.f1 ≤ 16777216
      · have he : evOk e = true := evOk_iff.2 ⟨h1.1, h1.2.1, h1.2.2, .inl h3⟩
        rw [if_pos (decide_eq_true h3), he, Bool.true_and]
      · rw [if_neg (by simpa using h3)]
        by_cases h4 : e.f1.f0 = 1
        · rw [if_pos h4]
          by_cases h5 : e.f1.f1 = 0
          · have he : evOk e = true := evOk_iff.2 ⟨h1.1, h1.2.1, h1.2.2, .inr ⟨h4, h5⟩⟩
            simp [h5, he]
          · have he : evOk e = false := Bool.eq_false_iff.2 fun h => (evOk_iff.1 h).2.2.2.elim h3 (fun q => h5 q.2)
            simp [h5, he]
        · have he : evOk e = false := Bool.eq_false_iff.2 fun h => (evOk_iff.1 h).2.2.2.elim h3 (fun q => h4 q.1)
          simp [h4, he]
    · have he : evOk e = false := Bool.eq_false_iff.2 fun h => h1 ⟨(evOk_iff.1 h).1, (evOk_iff.1 h).2.1, (evOk_iff.1 h).2.2.1⟩
      rw [if_neg (by simpa using h1), he, Bool.false_and]
theorem Valid_eq (d : List S37) (k : Nat) (hk : 40 ≤ k) : waterhourref04_Valid.f k d = some (vd d) := by
  obtain ⟨k, rfl⟩ : ∃ m, k = m + 1 := ⟨k - 1, by omega⟩
  unfold waterhourref04_Valid.f
  by_cases h1 : (d.length : Int) < 1
  · rw [if_pos h1]
    simp only [waterhourref04_Valid.j0, if_true]
    have : vd d = false := Bool.eq_false_iff.2 fun h => by have := (vd_iff.1 h).1; omega
    rw [this]
  · rw [if_neg h1]
    by_cases h2 : (d.length : Int) > 32
    · rw [decide_eq_true h2]
      simp only [waterhourref04_Valid.j0, if_true]
      have : vd d = false := Bool.eq_false_iff.2 fun h => by have := (vd_iff.1 h).2.1; omega
      rw [this]
    · rw [decide_eq_false h2]
      simp only [waterhourref04_Valid.j0, Bool.false_eq_true, if_false]
      have := Valid_l0 d (by omega) d.length k 0 (by omega) (by omega)
      rw [Int.natCast_zero] at this
      rw [this, List.drop_zero]
      congr 1
      rw [Bool.eq_iff_iff, vd_iff, List.all_eq_true]
      exact ⟨fun h => ⟨by omega, by omega, h⟩, fun h => h.2.2⟩

/-- The text of the first j events. -/
theorem dayT_next (d : List S37) (j : Nat) (hj : j < d.length) : dayT (d.take (j + 1)) = (if j = 0 then [] else dayT (d.take j) ++ [32]) ++ evW (rd_T37 d (j : Int)) := by
  unfold dayT
  rw [snoc_take d j hj, List.map_append, List.map_singleton]
  by_cases h : j = 0
  · subst h
    rw [if_pos rfl]
    simp [join_one]
  · rw [if_neg h, join_snoc _ _ _ (fun e => by
      have e := congrArg List.length e
      rw [List.length_map, List.length_take, List.length_nil] at e
      omega)]
    simp
theorem rPrint_l0 (d : List S37) (hv : vd d = true) : ∀ (m k j : Nat), d.length = j + m → 2 * m < k → waterhourref04_Print.l0 k d (tb (dayT (d.take j))) j = some (tb (dayT d), 0)
  | 0, k, j, hj, hk => by
    obtain ⟨k, rfl⟩ : ∃ m, k = m + 1 := ⟨k - 1, by omega⟩
    simp only [waterhourref04_Print.l0]
    rw [if_neg (by omega), List.take_of_length_le (by omega)]
  | m + 1, k, j, hj, hk => by
    obtain ⟨k, rfl⟩ : ∃ m, k = m + 1 + 1 := ⟨k - 2, by omega⟩
    obtain ⟨_, hl, ho⟩ := vd_iff.1 hv
    have hj' : j < d.length := by omega
    have ih := rPrint_l0 d hv m k (j + 1) (by omega) (by omega)
    have he := evOk_iff.1 (ho _ (rd_memN d j hj'))
    have w1 : wrap64 ((j : Int) + 1) = ((j + 1 : Nat) : Int) := by unfold wrap64; omega
    have hT := dayT_len' (d := d.take j) (fun e h => ho e (List.mem_of_mem_take h)) (by rw [List.length_take]; omega)
    rw [dayT_next d j hj'] at ih
    have key : ∀ pre : List UInt8, pre.length ≤ 1153 → pre = (if j = 0 then [] else dayT (d.take j) ++ [32]) → waterhourref04_Print.j1 (k + 1) d (tb pre) j = some (tb (dayT d), 0) := by
      intro pre hpre hp
      rw [← hp] at ih
      simp only [waterhourref04_Print.j1]
      rw [if_pos (by omega), if_pos (by omega), w1]
      generalize rd_T37 d (j : Int) = e at he ih
      obtain ⟨h1, h2, h3, h4⟩ := he
      have l1 := dec_len_le (n := e.f0.f0) (by omega) (by omega)
      have l2 := dec_len_le (n := e.f0.f1) (by omega) (by omega)
      rw [Itoa_eq (n := e.f0.f0) (by omega) (by omega), Itoa_eq (n := e.f0.f1) (by omega) (by omega)]
      simp only [Option.bind_some, tb_lit, tb_app, tb_size, List.length_append, List.length_cons, List.length_nil, waterhourref04_Known.f]
      rw [if_pos (by omega), if_pos (by omega), if_pos (by omega)]
      have sp : ∀ a b : Nat, decDigits a ++ [45] ++ decDigits b = spanT a b := fun a b => by simp [spanT]
      rcases h4 with ⟨h4, h5, h6⟩ | ⟨h4, h5⟩
      · have l3 := dec_len_le (n := e.f1.f0) (by omega) (by omega)
        have l4 := dec_len_le (n := e.f1.f1) (by omega) (by omega)
        rw [if_pos (decide_eq_true h5), Itoa_eq (n := e.f1.f0) (by omega) (by omega), Itoa_eq (n := e.f1.f1) (by omega) (by omega)]
        simp only [Option.bind_some, tb_lit, tb_app, tb_size, List.length_append, List.length_cons, List.length_nil]
        rw [if_pos (by omega), if_pos (by omega), if_pos (by omega), if_pos (by omega)]
        have hw : pre ++ evW e = pre ++ (decDigits e.f0.f0.toNat ++ [45] ++ decDigits e.f0.f1.toNat) ++ ([64] ++ decDigits e.f1.f0.toNat ++ [45] ++ decDigits e.f1.f1.toNat) := by
          unfold evW evT spanT
          rw [decide_eq_true h5, if_pos rfl]
          simp
        rw [← hw]
        exact ih
      · rw [if_neg (by simp; omega)]
        have hw : pre ++ evW e = pre ++ (decDigits e.f0.f0.toNat ++ [45] ++ decDigits e.f0.f1.toNat) := by
          unfold evW evT spanT
          rw [decide_eq_false (by omega), if_neg (by decide)]
          simp
        rw [← hw]
        exact ih
    simp only [waterhourref04_Print.l0]
    rw [if_pos (by omega)]
    by_cases h0 : j = 0
    · rw [if_neg (by omega)]
      refine key _ (by omega) ?_
      rw [if_pos h0, h0]
      rfl
    · rw [if_pos (by omega), if_pos (by rw [tb_size]; omega), tb_lit, tb_app]
      refine key _ (by simp; omega) ?_
      rw [if_neg h0]
theorem rPrint_eq (d : List S37) (k : Nat) (hk : 100 ≤ k) : waterhourref04_Print.f k d = some (if vd d = true then (tb (dayT d), 0) else (tb [], 40)) := by
  unfold waterhourref04_Print.f
  rw [Valid_eq d k (by omega)]
  simp only [Option.bind_some]
  by_cases hv : vd d = true
  · rw [if_pos hv, if_pos hv]
    have := rPrint_l0 d hv d.length k 0 (by omega) (by have := (vd_iff.1 hv).2.1; omega)
    rw [Int.natCast_zero] at this
    exact this
  · rw [if_neg hv, if_neg hv]
    rfl

theorem few_nil (d : List S37) (k : Nat) (hk : 2 ≤ k) : waterhourlaw04_few.f k d [] = some (decide ((d.length : Int) ≤ 100)) := by
  obtain ⟨k, rfl⟩ : ∃ m, k = m + 1 := ⟨k - 1, by omega⟩
  unfold waterhourlaw04_few.f
  simp [waterhourlaw04_few.l0]
theorem Same_l0 (l : List S37) (hl : l.length ≤ 1000) : ∀ (m k n : Nat), l.length = n + m → m < k → waterhourref04_Same.l0 k l l n = some true
  | 0, k, n, hn, hk => by
    obtain ⟨k, rfl⟩ : ∃ m, k = m + 1 := ⟨k - 1, by omega⟩
    simp only [waterhourref04_Same.l0]
    rw [if_neg (by omega)]
  | m + 1, k, n, hn, hk => by
    obtain ⟨k, rfl⟩ : ∃ m, k = m + 1 := ⟨k - 1, by omega⟩
    simp only [waterhourref04_Same.l0]
    rw [if_pos (by omega), if_pos (by omega), if_pos (by omega), if_neg (by simp), show wrap64 ((n : Int) + 1) = ((n + 1 : Nat) : Int) from by unfold wrap64; omega]
    exact Same_l0 l hl m k (n + 1) (by omega) (by omega)
theorem Same_self (l : List S37) (hl : l.length ≤ 1000) (k : Nat) (hk : 1001 ≤ k) : waterhourref04_Same.f k l l = some true := by
  unfold waterhourref04_Same.f
  rw [if_pos rfl]
  exact Same_l0 l hl l.length k 0 (by omega) (by omega)
end Go.Proofs.YtgiihjcpgjpkcaaGreatDoor.Q
