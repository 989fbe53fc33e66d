/- RefillTruth: the statement's own function answers true, at every list of steps and numbers; no program in sight. -/
import Derived.Test.YtgiihjcpgjpkcaaDoorHFacts
import Derived.Test.YtgiihjcpgjpkcaaDoorHCatI
import Derived.Test.YtgiihjcpgjpkcaaDoorHEqual
import Derived.Test.YtgiihjcpgjpkcaaDoorQWTruth
namespace Go.Proofs.YtgiihjcpgjpkcaaDoor.Q
open Go.RowKit Go.Proofs.YtgiihjcpgjpkcaaDoorW.PrintWords Go.Proofs.YtgiihjcpgjpkcaaDoorW.PrintLast Go.Proofs.YtgiihjcpgjpkcaaDoorW.PrintMore
set_option linter.unusedVariables false
set_option linter.unusedSimpArgs false

def tNow (s : List Int) : Nat → Int
  | 0 => 0
  | j + 1 => tNow s j + rd s (j : Int)
def tEv (s off : List Int) (kn : List Bool) (j : Nat) : S51 :=
  ⟨⟨max (rd s (j : Int) - rd off ((4 * j : Nat) : Int)) 0, rd s (j : Int) + rd off ((4 * j + 1 : Nat) : Int)⟩,
   if rdOf false kn (j : Int) = true then ⟨max (tNow s (j + 1) - rd off ((4 * j + 2 : Nat) : Int)) 0, tNow s (j + 1) + rd off ((4 * j + 3 : Nat) : Int)⟩ else ⟨1, 0⟩⟩
def tDay (s off : List Int) (kn : List Bool) (n : Nat) : List S51 := (List.range n).map (tEv s off kn)
theorem tDay_succ (s off : List Int) (kn : List Bool) (n : Nat) : tDay s off kn (n + 1) = tDay s off kn n ++ [tEv s off kn n] := by simp [tDay, List.range_succ]
theorem tDay_length (s off : List Int) (kn : List Bool) (n : Nat) : (tDay s off kn n).length = n := by simp [tDay]
theorem tMin_succ (s : List Int) (n : Nat) : minutesOf (n + 1) (tNow s) = minutesOf n (tNow s) ++ [tNow s (n + 1)] := by simp [minutesOf, List.range_succ]
theorem rd_tDay {s off : List Int} {kn : List Bool} {n p : Nat} (h : p < n) : rd_T51 (tDay s off kn n) (p : Int) = tEv s off kn p := by
  unfold rd_T51 tDay
  rw [Int.toNat_natCast, List.getD_eq_getElem?_getD, List.getElem?_map, List.getElem?_range h]
  rfl
/-- The steps and the offs are as the statement asks. -/
structure TruthOk (s off : List Int) (n : Nat) : Prop where
  n1 : 1 ≤ n
  n32 : n ≤ 32
  st : ∀ p : Nat, p < n → 0 ≤ rd s (p : Int) ∧ rd s (p : Int) ≤ 100000
  of : ∀ p : Nat, p < 4 * n → 0 ≤ rd off (p : Int) ∧ rd off (p : Int) ≤ 100000
theorem TruthOk.now {s off : List Int} {n : Nat} (h : TruthOk s off n) : ∀ j : Nat, j ≤ n → 0 ≤ tNow s j ∧ tNow s j ≤ 100000 * j
  | 0, _ => by simp [tNow]
  | j + 1, hj => by
    have ih := h.now j (by omega)
    have := h.st j (by omega)
    show 0 ≤ tNow s j + rd s (j : Int) ∧ tNow s j + rd s (j : Int) ≤ _
    omega
theorem TruthOk.ev {s off : List Int} {n : Nat} (h : TruthOk s off n) (kn : List Bool) {p : Nat} (hp : p < n) : evOk (tEv s off kn p) = true := by
  have h0 := h.st p hp
  have h1 := h.of (4 * p) (by omega)
  have h2 := h.of (4 * p + 1) (by omega)
  have h3 := h.of (4 * p + 2) (by omega)
  have h4 := h.of (4 * p + 3) (by omega)
  have h5 := h.now (p + 1) (by omega)
  have h32 := h.n32
  refine evOk_iff.2 ?_
  unfold tEv
  by_cases hk : rdOf false kn (p : Int) = true
  · rw [if_pos hk]; simp only; omega
  · rw [if_neg hk]; exact ⟨by simp only; omega, by simp only; omega, by simp only; omega, .inr ⟨rfl, rfl⟩⟩
theorem TruthOk.vd {s off : List Int} {n : Nat} (h : TruthOk s off n) (kn : List Bool) : vd (tDay s off kn n) = true := by
  refine vd_iff.2 ⟨by rw [tDay_length]; exact h.n1, by rw [tDay_length]; exact h.n32, fun e he => ?_⟩
  obtain ⟨p, hp, rfl⟩ := List.mem_map.1 he
  exact h.ev kn (List.mem_range.1 hp)
theorem TruthOk.check {s off : List Int} {n : Nat} (h : TruthOk s off n) (kn : List Bool) : checkOf (tDay s off kn n) (minutesOf n (tNow s)) = 0 := by
  refine check_zero.2 ⟨h.vd kn, by rw [minutesOf_length, tDay_length], allOk_iff.2 fun p hp => ?_⟩
  rw [tDay_length] at hp
  have h0 := h.st p hp
  have h1 := h.of (4 * p) (by omega)
  have h2 := h.of (4 * p + 1) (by omega)
  have h3 := h.of (4 * p + 2) (by omega)
  have h4 := h.of (4 * p + 3) (by omega)
  have h5 := h.now (p + 1) (by omega)
  have h32 := h.n32
  have hs : tNow s (p + 1) = tNow s p + rd s (p : Int) := rfl
  unfold okAt
  rw [rd_minutesOf hp, prev_minutesOf (m := tNow s) rfl (by omega), rd_tDay hp]
  refine decide_eq_true ?_
  unfold tEv
  by_cases hk : rdOf false kn (p : Int) = true
  · rw [if_pos hk]; simp only; omega
  · rw [if_neg hk]; exact ⟨by omega, by omega, by simp only; omega, by simp only; omega, .inl ⟨rfl, rfl⟩⟩
theorem truth_j5 {d : List S51} {l : List Int} {i : Int} (hz : checkOf d l = 0) (hi : 0 ≤ i ∧ i < d.length) (by_ bound : Int) (k : Nat) (hk : 2000 ≤ k) : waterhourlaw04_RefillTruth.j5 (k + 1) i by_ bound d l false = some true := by
  have hlen := (check_zero.1 hz).2.1
  have hw := check_within hz hi.1 hi.2
  simp only [waterhourlaw04_RefillTruth.j5]
  rw [if_neg (by decide), pCheckProof_eq d i false bound by_ k hk, pCheckProof_eq d i true bound by_ k hk]
  simp only [Option.bind_some]
  have h2 : checkProofOf d i true bound by_ = 0 → decide (rd l i ≤ bound) = true := fun h => decide_eq_true (by have := proof_hi h; omega)
  by_cases h1 : checkProofOf d i false bound by_ = 0
  · rw [if_pos h1, if_pos hi.1, if_pos (by omega), if_neg (by have := proof_lo h1; omega)]
    by_cases h3 : checkProofOf d i true bound by_ = 0
    · rw [if_pos h3, h2 h3]
    · rw [if_neg h3]
  · rw [if_neg h1]
    by_cases h3 : checkProofOf d i true bound by_ = 0
    · rw [if_pos h3, if_pos hi.1, if_pos (by omega), h2 h3]
    · rw [if_neg h3]
theorem truth_j3 {d : List S51} {l : List Int} (hz : checkOf d l = 0) (i by_ bound : Int) (k : Nat) (hk : 2002 ≤ k) : waterhourlaw04_RefillTruth.j3 (k + 1) i by_ bound d l false = some true := by
  obtain ⟨k, rfl⟩ : ∃ m, k = m + 1 := ⟨k - 1, by omega⟩
  obtain ⟨k, rfl⟩ : ∃ m, k = m + 1 := ⟨k - 1, by omega⟩
  have hlen := (check_zero.1 hz).2.1
  have hv := (check_zero.1 hz).1
  have jt : waterhourlaw04_RefillTruth.j4 (k + 1 + 1) i by_ bound d l true = some true := by simp only [waterhourlaw04_RefillTruth.j4, if_true]
  simp only [waterhourlaw04_RefillTruth.j3]
  rw [if_neg (by decide), jt]
  by_cases h1 : i < 0
  · rw [if_pos h1]
  · rw [if_neg h1]
    by_cases h2 : i ≥ (l.length : Int)
    · rw [decide_eq_true h2, jt]
    · have hi : 0 ≤ i ∧ i < d.length := by omega
      have hw := check_within hz hi.1 hi.2
      rw [decide_eq_false h2]
      simp only [waterhourlaw04_RefillTruth.j4]
      rw [if_neg (by decide), pTime_eq d i (k + 1) (by omega), readyA_of hv (check_noClash hz) hi.1 hi.2]
      simp only [Option.bind_some, if_true]
      rw [if_pos hi.1, if_pos (by omega), if_neg (by omega), decide_eq_false (by omega)]
      exact truth_j5 hz hi by_ bound k (by omega)
theorem truth_end {s off : List Int} {kn : List Bool} (h : TruthOk s off s.length) (ho : off.length = 4 * s.length) (hkn : kn.length = s.length) (i by_ bound a b : Int) (k j : Nat) (hj : s.length = j) (hk : 2010 ≤ k) :
    waterhourlaw04_RefillTruth.l1 k off kn i by_ bound a b (tDay s off kn j) (minutesOf j (tNow s)) (tNow s j) s s.length j = some true := by
  obtain ⟨k, rfl⟩ : ∃ m, k = m + 1 := ⟨k - 1, by omega⟩
  obtain ⟨k, rfl⟩ : ∃ m, k = m + 1 := ⟨k - 1, by omega⟩
  obtain rfl : s.length = j := by omega
  have hz := h.check kn
  simp only [waterhourlaw04_RefillTruth.l1]
  rw [if_neg (by omega), pCheckClash_eq _ a b (k + 1) (by omega)]
  simp only [refill_CheckTimes.f]
  rw [Option.bind_some, Option.bind_some]
  have hne : checkClashOf (tDay s off kn s.length) a b ≠ 0 := by
    unfold checkClashOf
    rw [if_pos (h.vd kn)]
    by_cases hr : -1 ≤ a ∧ a < (tDay s off kn s.length).length ∧ 0 ≤ b ∧ b < (tDay s off kn s.length).length ∧ a < b
    · rw [if_pos hr, ((clashOf_spec (tDay s off kn s.length)).none_ (check_noClash hz)).2 a b hr.1 hr.2.2.2.2 hr.2.2.2.1]
      decide
    · rw [if_neg hr]; decide
  rw [if_pos hz, show (checkClashOf (tDay s off kn s.length) a b == 0) = false from beq_eq_false_iff_ne.2 hne]
  exact truth_j3 hz i by_ bound k (by omega)
theorem ws_sub {a b : Int} (ha : 0 ≤ a ∧ a ≤ 4000000) (hb : 0 ≤ b ∧ b ≤ 4000000) : wrap64 (a - b) = a - b := wrap_small (by omega) (by omega)
theorem ws_add {a b : Int} (ha : 0 ≤ a ∧ a ≤ 4000000) (hb : 0 ≤ b ∧ b ≤ 4000000) : wrap64 (a + b) = a + b := wrap_small (by omega) (by omega)
theorem ws_up {a : Int} (h : 0 ≤ a ∧ a ≤ 100000) : 0 ≤ a ∧ a ≤ 4000000 := by omega
theorem TruthOk.now4 {s off : List Int} {n : Nat} (h : TruthOk s off n) {j : Nat} (hj : j ≤ n) : 0 ≤ tNow s j ∧ tNow s j ≤ 4000000 := ⟨(h.now j hj).1, Int.le_trans (h.now j hj).2 (by have := h.n32; omega)⟩
set_option maxHeartbeats 4000000 in
theorem truth_step {s off : List Int} {kn : List Bool} (h : TruthOk s off s.length) (ho : off.length = 4 * s.length) (hkn : kn.length = s.length) (i by_ bound a b : Int) (k j : Nat) (hp : j < s.length) (ih : waterhourlaw04_RefillTruth.l1 k off kn i by_ bound a b (tDay s off kn (j + 1)) (minutesOf (j + 1) (tNow s)) (tNow s (j + 1)) s s.length ((j + 1 : Nat) : Int) = some true) :
    waterhourlaw04_RefillTruth.l1 (k + 1) off kn i by_ bound a b (tDay s off kn j) (minutesOf j (tNow s)) (tNow s j) s s.length j = some true := by
  have h0 := ws_up (h.st j hp)
  have h1 := ws_up (h.of (4 * j) (by omega))
  have h2 := ws_up (h.of (4 * j + 1) (by omega))
  have h3 := ws_up (h.of (4 * j + 2) (by omega))
  have h4 := ws_up (h.of (4 * j + 3) (by omega))
  have h5 := h.now4 (j := j) (by omega)
  have h6 := h.now4 (j := j + 1) hp
  have h32 := h.n32
  have hs : tNow s j + rd s (j : Int) = tNow s (j + 1) := rfl
  have w0 : wrap64 (4 * (j : Int)) = ((4 * j : Nat) : Int) := by clear h0 h1 h2 h3 h4 h5 h6 hs; unfold wrap64; omega
  have w1 : wrap64 (((4 * j : Nat) : Int) + 1) = ((4 * j + 1 : Nat) : Int) := by clear h0 h1 h2 h3 h4 h5 h6 hs; unfold wrap64; omega
  have w2 : wrap64 (((4 * j : Nat) : Int) + 2) = ((4 * j + 2 : Nat) : Int) := by clear h0 h1 h2 h3 h4 h5 h6 hs; unfold wrap64; omega
  have w3 : wrap64 (((4 * j : Nat) : Int) + 3) = ((4 * j + 3 : Nat) : Int) := by clear h0 h1 h2 h3 h4 h5 h6 hs; unfold wrap64; omega
  have w4 : wrap64 ((j : Int) + 1) = ((j + 1 : Nat) : Int) := by clear h0 h1 h2 h3 h4 h5 h6 hs; unfold wrap64; omega
  have e1 := ws_sub h0 h1
  have e2 := ws_add h0 h2
  have e3 := (ws_add h5 h0).trans hs
  have e4 := ws_sub h6 h3
  have e5 := ws_add h6 h4
  clear h0 h1 h2 h3 h4 h5 h6 hs
  have hd : (tDay s off kn j).length < 4398046511104 := by rw [tDay_length]; omega
  have hm : (minutesOf j (tNow s)).length < 17592186044416 := by rw [minutesOf_length]; omega
  simp only [waterhourlaw04_RefillTruth.l1, w0, w1, w2, w3, w4, e1, e2, e3, e4, e5, mx_max]
  rw [tDay_succ, tMin_succ] at ih
  rw [if_pos (by omega), if_pos (by omega), if_pos (by omega), if_pos (by omega), if_pos (by omega), if_pos (by omega), if_pos (by omega), if_pos (by omega)]
  by_cases hk' : rdOf false kn (j : Int) = true
  · have et : tEv s off kn j = ⟨⟨max (rd s (j : Int) - rd off ((4 * j : Nat) : Int)) 0, rd s (j : Int) + rd off ((4 * j + 1 : Nat) : Int)⟩, ⟨max (tNow s (j + 1) - rd off ((4 * j + 2 : Nat) : Int)) 0, tNow s (j + 1) + rd off ((4 * j + 3 : Nat) : Int)⟩⟩ := by unfold tEv; rw [if_pos hk']
    rw [if_pos hk', if_pos (by omega), if_pos (by omega), if_pos (by omega), if_pos (by omega), if_pos hd, if_pos hm]
    rw [et] at ih
    exact ih
  · have et : tEv s off kn j = ⟨⟨max (rd s (j : Int) - rd off ((4 * j : Nat) : Int)) 0, rd s (j : Int) + rd off ((4 * j + 1 : Nat) : Int)⟩, ⟨1, 0⟩⟩ := by unfold tEv; rw [if_neg hk']
    rw [if_neg hk', if_pos hd, if_pos hm]
    rw [et] at ih
    exact ih
theorem truth_l1 {s off : List Int} {kn : List Bool} (h : TruthOk s off s.length) (ho : off.length = 4 * s.length) (hkn : kn.length = s.length) (i by_ bound a b : Int) : ∀ (m k j : Nat), s.length = j + m → m + 2010 ≤ k → waterhourlaw04_RefillTruth.l1 k off kn i by_ bound a b (tDay s off kn j) (minutesOf j (tNow s)) (tNow s j) s s.length j = some true
  | 0, k, j, hj, hk => truth_end h ho hkn i by_ bound a b k j hj (by omega)
  | m + 1, k, j, hj, hk => by
    obtain ⟨k, rfl⟩ : ∃ m, k = m + 1 := ⟨k - 1, by omega⟩
    exact truth_step h ho hkn i by_ bound a b k j (by omega) (truth_l1 h ho hkn i by_ bound a b m k (j + 1) (by omega) (by omega))
theorem rd_in {l : List Int} {j : Nat} (h : j < l.length) : rd l (j : Int) = l[j] := by
  unfold rd
  rw [Int.toNat_natCast, List.getD_eq_getElem?_getD, List.getElem?_eq_getElem h]
  rfl
theorem truth_l0 {s off xs : List Int} {kn : List Bool} (i by_ bound a b : Int) (hx : xs.length ≤ 300) (G : (∀ n ∈ xs, 0 ≤ n ∧ n ≤ 100000) → ∀ k : Nat, 2100 ≤ k → waterhourlaw04_RefillTruth.l1 k off kn i by_ bound a b [] [] 0 s s.length 0 = some true) :
    ∀ (m k j : Nat), xs.length = j + m → m + 2110 ≤ k → (∀ p : Nat, p < j → 0 ≤ rd xs (p : Int) ∧ rd xs (p : Int) ≤ 100000) → waterhourlaw04_RefillTruth.l0 k s off kn i by_ bound a b xs xs.length j = some true
  | 0, k, j, hj, hk, hp => by
    obtain ⟨k, rfl⟩ : ∃ m, k = m + 1 := ⟨k - 1, by omega⟩
    simp only [waterhourlaw04_RefillTruth.l0]
    rw [if_neg (by omega)]
    refine G (fun n hn => ?_) k (by omega)
    obtain ⟨p, hpl, rfl⟩ := List.getElem_of_mem hn
    have := hp p (by omega)
    rwa [rd_in hpl] at this
  | m + 1, k, j, hj, hk, hp => by
    obtain ⟨k, rfl⟩ : ∃ m, k = m + 1 := ⟨k - 1, by omega⟩
    simp only [waterhourlaw04_RefillTruth.l0]
    rw [if_pos (by omega), if_pos (by omega), if_pos (by omega), show wrap64 ((j : Int) + 1) = ((j + 1 : Nat) : Int) from by unfold wrap64; omega]
    by_cases h1 : rd xs (j : Int) < 0
    · rw [if_pos h1]
    · rw [if_neg h1]
      by_cases h2 : rd xs (j : Int) > 100000
      · rw [if_pos h2]
      · rw [if_neg h2]
        refine truth_l0 i by_ bound a b hx G m k (j + 1) (by omega) (by omega) (fun p hpj => ?_)
        by_cases e : p = j
        · subst e; omega
        · exact hp p (by omega)
theorem truth_j0 {s off : List Int} {kn : List Bool} (h1 : 1 ≤ s.length) (h32 : s.length ≤ 32) (ho : off.length = 4 * s.length) (hkn : kn.length = s.length) (i by_ bound a b : Int) (k : Nat) (hk : 2500 ≤ k) : waterhourlaw04_RefillTruth.j0 (k + 1) s off kn i by_ bound a b false = some true := by
  have hf : [s, off].flatten = s ++ off := by simp
  have hl : (s ++ off).length = s.length + off.length := List.length_append
  simp only [waterhourlaw04_RefillTruth.j0]
  rw [if_neg (by decide), cat_eq [s, off] (by rw [hf]; omega) (by rw [hf]; omega) (by simp) k (by omega), hf]
  simp only [Option.bind_some]
  refine truth_l0 i by_ bound a b (by omega) (fun hall k hk => ?_) (s ++ off).length k 0 (by omega) (by omega) (fun p hp => by omega)
  refine truth_l1 ⟨h1, h32, fun p hp => ?_, fun p hp => ?_⟩ ho hkn i by_ bound a b s.length k 0 (by omega) (by omega)
  · rw [rd_in hp]; exact hall _ (List.mem_append_left _ (List.getElem_mem _))
  · rw [rd_in (show p < off.length by omega)]; exact hall _ (List.mem_append_right _ (List.getElem_mem _))
theorem law_Truth (s off : List Int) (kn : List Bool) (i by_ bound a b : Int) : waterhourlaw04_RefillTruth.f 3000 s off kn i by_ bound a b = some true := by
  unfold waterhourlaw04_RefillTruth.f law_sane.f
  simp only [Option.bind_some, if_true]
  have jt : waterhourlaw04_RefillTruth.j0 3000 s off kn i by_ bound a b true = some true := by simp only [waterhourlaw04_RefillTruth.j0, if_true]
  rw [jt]
  by_cases h1 : (s.length : Int) < 1
  · rw [if_pos h1]
  · rw [if_neg h1]
    by_cases h2 : (s.length : Int) > 32
    · rw [if_pos h2]
    · rw [if_neg h2, wrap_small (x := 4 * (s.length : Int)) (by omega) (by omega)]
      by_cases h3 : (off.length : Int) = 4 * (s.length : Int)
      · rw [if_pos h3]
        by_cases h4 : (kn.length : Int) = (s.length : Int)
        · rw [show ((kn.length : Int) != (s.length : Int)) = false from bne_eq_false_iff_eq.2 h4]
          exact truth_j0 (by omega) (by omega) (by omega) (by omega) i by_ bound a b 2999 (by omega)
        · rw [show ((kn.length : Int) != (s.length : Int)) = true from bne_iff_ne.2 h4]
          exact jt
      · rw [if_neg h3]
end Go.Proofs.YtgiihjcpgjpkcaaDoor.Q
