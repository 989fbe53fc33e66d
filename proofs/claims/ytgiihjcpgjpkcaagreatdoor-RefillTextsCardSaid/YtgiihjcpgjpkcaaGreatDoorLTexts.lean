/- RefillTexts: the statement's own function answers true, at every day and text; no program in sight. -/
import Derived.Test.YtgiihjcpgjpkcaaGreatDoorHParse
import Derived.Test.YtgiihjcpgjpkcaaGreatDoorQWTexts
namespace Go.Proofs.YtgiihjcpgjpkcaaGreatDoor.Q
open Go.RowKit Go.Lib Go.Proofs.YtgiihjcpgjpkcaaGreatDoorW.PrintWords Go.Proofs.YtgiihjcpgjpkcaaGreatDoorW.PrintLast Go.Proofs.YtgiihjcpgjpkcaaGreatDoorW.PrintMore
set_option linter.unusedVariables false
set_option linter.unusedSimpArgs false

theorem spanV_spanT {a b : Nat} (ha : a < 100000000) (hb : b < 100000000) : spanV (spanT a b) = ((a : Int), (b : Int), true) := by
  unfold spanV
  rw [spanT_cut]
  simp only [atoiV, atoiOk, atoi_dec ha, atoi_dec hb, Bool.and_self]
theorem evP_evW {e : S37} (h : evOk e = true) : evP (evW e) = some e := by
  obtain ⟨h1, h2, h3, h4⟩ := evOk_iff.1 h
  obtain ⟨⟨a, b⟩, ⟨c, d⟩⟩ := e
  simp only at h1 h2 h3 h4
  have hs1 := spanV_spanT (a := a.toNat) (b := b.toNat) (by omega) (by omega)
  rw [Int.toNat_of_nonneg h1, Int.toNat_of_nonneg (show 0 ≤ b by omega)] at hs1
  unfold evP evW
  rw [evT_cut]
  dsimp only
  rw [hs1]
  dsimp only
  rw [if_pos rfl]
  rcases h4 with ⟨h4, h5, h6⟩ | ⟨rfl, rfl⟩
  · have hs2 := spanV_spanT (a := c.toNat) (b := d.toNat) (by omega) (by omega)
    rw [Int.toNat_of_nonneg h4, Int.toNat_of_nonneg (show 0 ≤ d by omega)] at hs2
    rw [decide_eq_true h5, if_pos rfl, if_pos rfl, hs2]
    dsimp only
    rw [if_pos rfl]
  · rw [decide_eq_false (by omega), if_neg (by decide)]
theorem evN_evW {e : S37} (h : evOk e = true) : evN (nums 0 (evW e)) = some e := by
  obtain ⟨h1, h2, h3, h4⟩ := evOk_iff.1 h
  obtain ⟨⟨a, b⟩, ⟨c, d⟩⟩ := e
  simp only at h1 h2 h3 h4
  unfold evW
  dsimp only
  rw [evT_nums _ _ _ _ _ (by omega) (by omega) (by omega) (by omega)]
  rcases h4 with ⟨h4, h5, h6⟩ | ⟨rfl, rfl⟩
  · simp only [decide_eq_true h5, if_true, evN, Int.toNat_of_nonneg h1, Int.toNat_of_nonneg (show 0 ≤ b by omega), Int.toNat_of_nonneg h4, Int.toNat_of_nonneg (show 0 ≤ d by omega)]
  · rw [decide_eq_false (by omega), if_neg (by decide)]
    simp only [evN, Int.toNat_of_nonneg h1, Int.toNat_of_nonneg (show 0 ≤ b by omega)]
theorem evs_map (f : List UInt8 → Option S37) : ∀ d : List S37, (∀ e ∈ d, f (evW e) = some e) → evs f (d.map evW) = some d
  | [], _ => rfl
  | e :: r, h => by
    rw [List.map_cons, evs, h e (List.mem_cons_self), evs_map f r (fun x hx => h x (List.mem_cons_of_mem _ hx))]
    rfl
theorem words_blank (d : List S37) : ∀ x ∈ d.map evW, (32 : UInt8) ∉ x := fun x hx => by
  obtain ⟨e, he, rfl⟩ := List.mem_map.1 hx
  exact evT_blank _ _ _ _ _
theorem prog_round {d : List S37} (hv : vd d = true) : evs evP (splitK [32] 0 (count (dayT d) [32]) (dayT d)) = some d := by
  obtain ⟨h1, _, ho⟩ := vd_iff.1 hv
  have hb := words_blank d
  have hm := evs_map evP d (fun e he => evP_evW (ho e he))
  unfold dayT
  cases d with
  | nil => simp at h1
  | cons e r =>
    rw [List.map_cons] at hb hm ⊢
    rw [split_join 32 _ _ hb]
    exact hm
theorem ref_round {d : List S37} (hv : vd d = true) : evs (fun w => evN (nums 0 w)) (wd 32 [] (dayT d)) = some d := by
  obtain ⟨h1, _, ho⟩ := vd_iff.1 hv
  have hb := words_blank d
  have hm := evs_map (fun w => evN (nums 0 w)) d (fun e he => evN_evW (ho e he))
  unfold dayT
  cases d with
  | nil => simp at h1
  | cons e r =>
    rw [List.map_cons] at hb hm ⊢
    rw [wd_join 32 _ _ hb]
    exact hm
/-- What the program's Parse comes to, and what the reference's does. -/
def parP (L : List UInt8) : List S37 × Int := fin L [] (evs evP (splitK [32] 0 (count L [32]) L))
def parR (L : List UInt8) : List S37 × Int := if L.length > 1200 then ([], 3) else fin L [] (evs (fun w => evN (nums 0 w)) (wd 32 [] L))
theorem fin_cases (L : List UInt8) (o : Option (List S37)) : fin L [] o = ([], 3) ∨ ∃ d, vd d = true ∧ dayT d = L ∧ fin L [] o = (d, 0) := by
  cases o with
  | none => exact .inl rfl
  | some d =>
    simp only [fin, List.nil_append]
    by_cases h : vd d = true ∧ dayT d = L
    · exact .inr ⟨d, h.1, h.2, if_pos h⟩
    · exact .inl (if_neg h)
theorem parP_day {d : List S37} (hv : vd d = true) : parP (dayT d) = (d, 0) := by
  unfold parP
  rw [prog_round hv]
  simp only [fin, List.nil_append]
  rw [if_pos ⟨hv, trivial⟩]
theorem dayT_len {d : List S37} (hv : vd d = true) : (dayT d).length ≤ 1152 := dayT_len' (vd_iff.1 hv).2.2 (vd_iff.1 hv).2.1
theorem parR_day {d : List S37} (hv : vd d = true) : parR (dayT d) = (d, 0) := by
  have := dayT_len hv
  unfold parR
  rw [if_neg (by omega), ref_round hv]
  simp only [fin, List.nil_append]
  rw [if_pos ⟨hv, trivial⟩]
theorem parP_cases (L : List UInt8) : parP L = ([], 3) ∨ ∃ d, vd d = true ∧ dayT d = L ∧ parP L = (d, 0) := fin_cases _ _
theorem parR_cases (L : List UInt8) : parR L = ([], 3) ∨ ∃ d, vd d = true ∧ dayT d = L ∧ parR L = (d, 0) := by
  unfold parR
  split
  · exact .inl rfl
  · exact fin_cases _ _
theorem par_eq (L : List UInt8) : parR L = parP L := by
  rcases parP_cases L with h | ⟨d, hv, rfl, h⟩
  · rcases parR_cases L with h' | ⟨d, hv, rfl, h'⟩
    · rw [h, h']
    · rw [parP_day hv] at h
      have := congrArg Prod.snd h
      simp at this
  · rw [h, parR_day hv]

theorem texts_j2 (s : ByteArray) (x : List S37 × Int) (hx : x = ([], 3) ∨ ∃ d, vd d = true ∧ dayT d = s.data.toList ∧ x = (d, 0)) (k : Nat) (hk : 40 ≤ k) : waterhourlaw04_RefillTexts.j2 (k + 1) s x.1 x.2 = some true := by
  simp only [waterhourlaw04_RefillTexts.j2]
  rcases hx with rfl | ⟨d, hv, ht, rfl⟩
  · rw [if_neg (by decide)]
  · rw [if_pos rfl, Print_eq d k hk, if_pos hv]
    simp only [Option.bind_some]
    rw [if_pos trivial, if_pos (by rw [toList_data, toList_data, tb_data, ht])]
theorem texts_j1 (d : List S37) (s : ByteArray) (x : List S37 × Int) (hx : x = ([], 3) ∨ ∃ d, vd d = true ∧ dayT d = s.data.toList ∧ x = (d, 0)) (k : Nat) (hk : 10000 ≤ k) (p : ByteArray × Int) (hp : p = if vd d = true then (tb (dayT d), 0) else (tb [], 40)) :
    waterhourlaw04_RefillTexts.j1 (k + 2) d s p.1 p.2 x.1 x.2 false = some true := by
  simp only [waterhourlaw04_RefillTexts.j1]
  rw [if_neg (by decide)]
  by_cases hv : vd d = true
  · rw [if_pos hv] at hp
    subst hp
    have hl := dayT_len hv
    rw [if_pos rfl, Parse_eq (tb (dayT d)) (by rw [tb_size]; omega) (k + 1) (by omega), tb_data, show fin (dayT d) [] (evs evP (splitK [32] 0 (count (dayT d) [32]) (dayT d))) = (d, 0) from parP_day hv]
    simp only [Option.bind_some]
    rw [if_pos trivial, Same_self d (by have := (vd_iff.1 hv).2.1; omega) (k + 1) (by omega)]
    simp only [Option.bind_some, if_true]
    exact texts_j2 s x hx k (by omega)
  · rw [if_neg hv] at hp
    subst hp
    rw [if_neg (by decide)]
    exact texts_j2 s x hx k (by omega)
theorem texts_j0 (d : List S37) (s : ByteArray) (hs : s.size ≤ 5000) (k : Nat) (hk : 25000 ≤ k) : waterhourlaw04_RefillTexts.j0 (k + 3) d s false = some true := by
  simp only [waterhourlaw04_RefillTexts.j0]
  have hR := rParse_eq s (k + 2) (by omega)
  have e : (if s.data.toList.length > 1200 then ([], 3) else fin s.data.toList [] (evs (fun w => evN (nums 0 w)) (wd 32 [] s.data.toList))) = parP s.data.toList := par_eq _
  rw [e] at hR
  have hP : refill_Parse.f (k + 2) s = some (parP s.data.toList) := Parse_eq s hs (k + 2) (by omega)
  rw [if_neg (by decide), Print_eq d (k + 2) (by omega), rPrint_eq d (k + 2) (by omega), hP, hR]
  simp only [Option.bind_some]
  have hx := parP_cases s.data.toList
  generalize parP s.data.toList = x at hx
  have hl : x.1.length ≤ 1000 := by
    rcases hx with rfl | ⟨d', hv, _, rfl⟩
    · simp
    · have := (vd_iff.1 hv).2.1
      simp only
      omega
  rw [if_pos trivial, if_pos trivial, Same_self x.1 hl (k + 2) (by omega)]
  simp only [Option.bind_some, if_true, bne_self_eq_false]
  exact texts_j1 d s x hx k (by omega) _ rfl
theorem law_Texts (d : List S37) (s : ByteArray) : waterhourlaw04_RefillTexts.f 30000 d s = some true := by
  unfold waterhourlaw04_RefillTexts.f law_sane.f
  simp only [Option.bind_some, if_true]
  rw [few_nil d 30000 (by omega)]
  simp only [Option.bind_some]
  by_cases h : (d.length : Int) ≤ 100
  · rw [if_pos (decide_eq_true h)]
    by_cases hs : (s.size : Int) > 5000
    · rw [decide_eq_true hs]
      simp only [waterhourlaw04_RefillTexts.j0, if_true]
    · rw [decide_eq_false hs]
      exact texts_j0 d s (by omega) 29997 (by omega)
  · rw [if_neg (by simpa using h)]
    simp only [waterhourlaw04_RefillTexts.j0, if_true]
end Go.Proofs.YtgiihjcpgjpkcaaGreatDoor.Q
