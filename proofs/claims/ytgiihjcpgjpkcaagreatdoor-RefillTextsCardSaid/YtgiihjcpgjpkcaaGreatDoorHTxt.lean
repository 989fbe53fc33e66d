/- The texts of days over plain lists of bytes: numerals, cuts, splits and the way back; no program in sight. -/
import Derived.Lib.AtoiTie
import Derived.Lib.ItoaLen
import Derived.Lib.SplitLaws
import Derived.Lib.CutLaws
import Derived.Lib.Join
namespace Go.Proofs.YtgiihjcpgjpkcaaGreatDoor.Q
open Go.Lib

def Dig (l : List UInt8) : Prop := ∀ c ∈ l, 48 ≤ c.toNat ∧ c.toNat ≤ 57
theorem digit_toNat {d : Nat} (h : d < 10) : (UInt8.ofNat (48 + d)).toNat = 48 + d := by
  rw [UInt8.toNat_ofNat']
  omega
theorem dig_dec (u : Nat) : Dig (decDigits u) := by
  induction u using Nat.strongRecOn with
  | _ u ih =>
    rw [decDigits]
    split
    · intro c hc
      obtain rfl := List.mem_singleton.1 hc
      rw [digit_toNat (by omega)]
      omega
    · intro c hc
      rcases List.mem_append.1 hc with h | h
      · exact ih _ (by omega) c h
      · obtain rfl := List.mem_singleton.1 h
        rw [digit_toNat (by omega)]
        omega
theorem dig_not {l : List UInt8} (h : Dig l) (c : UInt8) (hc : c.toNat < 48 ∨ 57 < c.toNat) : c ∉ l := fun hm => by
  have := h c hm
  omega
theorem dec_ne (u : Nat) : decDigits u ≠ [] := by
  have := nDigits_pos u
  rw [← decDigits_length] at this
  intro h
  rw [h] at this
  simp at this
theorem decFrom_append : ∀ (a b : List UInt8) (acc m : Nat), decFrom acc a = some m → decFrom acc (a ++ b) = decFrom m b
  | [], b, acc, m, h => by
    simp only [decFrom, Option.some.injEq] at h
    subst h
    rfl
  | c :: a, b, acc, m, h => by
    simp only [decFrom, List.cons_append] at h ⊢
    cases hd : digitVal c with
    | none => simp [hd] at h
    | some d =>
      simp only [hd] at h ⊢
      exact decFrom_append a b _ m h
theorem decFrom_dec (u : Nat) : decFrom 0 (decDigits u) = some u := by
  induction u using Nat.strongRecOn with
  | _ u ih =>
    by_cases h : u < 10
    · rw [decDigits, dif_pos h]
      simp only [decFrom, digitVal, digit_toNat h]
      rw [if_pos (by omega)]
      simp
    · rw [decDigits, dif_neg h, decFrom_append _ _ _ _ (ih (u / 10) (by omega))]
      simp only [decFrom, digitVal, digit_toNat (show u % 10 < 10 by omega)]
      rw [if_pos (by omega)]
      simp only [Option.some.injEq]
      omega
theorem nDigits_le : ∀ (k u : Nat), u < 10 ^ (k + 1) → nDigits u ≤ k + 1
  | 0, u, h => by rw [nDigits_small (by simpa using h)]; omega
  | k + 1, u, h => by
    by_cases h1 : u < 10
    · rw [nDigits_small h1]; omega
    · rw [nDigits_big h1]
      have := nDigits_le k (u / 10) (by rw [Nat.pow_succ] at h; omega)
      omega
theorem dec_len6 {u : Nat} (h : u < 1000000) : (decDigits u).length ≤ 6 := by rw [decDigits_length]; exact nDigits_le 5 u (by simpa using h)
theorem dec_len8 {u : Nat} (h : u < 100000000) : (decDigits u).length ≤ 8 := by rw [decDigits_length]; exact nDigits_le 7 u (by simpa using h)
theorem atoi_dec {u : Nat} (hu : u < 100000000) : atoiAll (decDigits u) = .ok (u : Int) := by
  have hl := dec_len8 hu
  rw [atoiAll_short _ (by omega)]
  have hn := dec_ne u
  have hf := decFrom_dec u
  have hd := dig_dec u
  cases hl : decDigits u with
  | nil => exact absurd hl hn
  | cons b r =>
    rw [hl] at hf hd
    have hb := hd b (List.mem_cons_self)
    have h45 : (b == 45) = false := by
      rw [beq_eq_false_iff_ne]
      rintro rfl
      exact absurd hb (by decide)
    have h43 : (b == 43) = false := by
      rw [beq_eq_false_iff_ne]
      rintro rfl
      exact absurd hb (by decide)
    simp only [atoi, h45, h43, Bool.false_eq_true, if_false, decNat, List.isEmpty_cons, hf, Option.map_some, NumEnd.ofOption]

theorem index_one (b : List UInt8) (c : UInt8) : ∀ a : List UInt8, c ∉ a → index (a ++ c :: b) [c] = a.length
  | [], _ => by simp [index, List.isPrefixOf]
  | x :: a, h => by
    have hx : ¬ c = x := fun e => h (by rw [e]; exact List.mem_cons_self)
    have ih := index_one b c a (fun hm => h (List.mem_cons_of_mem _ hm))
    rw [List.cons_append]
    unfold index
    rw [ih]
    have h1 : ((a.length : Int) == -1) = false := by rw [beq_eq_false_iff_ne]; omega
    simp [List.isPrefixOf, hx, h1]
theorem index_no (c : UInt8) : ∀ a : List UInt8, c ∉ a → index a [c] = -1
  | [], _ => by simp [index]
  | x :: a, h => by
    have hx : ¬ c = x := fun e => h (by rw [e]; exact List.mem_cons_self)
    have ih := index_no c a (fun hm => h (List.mem_cons_of_mem _ hm))
    unfold index
    rw [ih]
    simp [List.isPrefixOf, hx]
theorem cut_at (a b : List UInt8) (c : UInt8) (h : c ∉ a) : cut (a ++ c :: b) [c] = (a, b, true) := by
  unfold cut
  rw [index_one b c a h, if_pos (by omega)]
  simp
theorem cut_no (a : List UInt8) (c : UInt8) (h : c ∉ a) : cut a [c] = (a, [], false) := by
  unfold cut
  rw [index_no c a h, if_neg (by omega)]

theorem join_two (w y : List UInt8) (r : List (List UInt8)) (c : UInt8) : join (w :: y :: r) [c] = w ++ c :: join (y :: r) [c] := by
  rw [join_cons, join_cons]
  simp [joinTail]
theorem splitK_join (c : UInt8) : ∀ (ws : List (List UInt8)) (w : List UInt8), (∀ x ∈ w :: ws, c ∉ x) → splitK [c] 0 ws.length (join (w :: ws) [c]) = w :: ws
  | [], w, _ => by
    rw [join_one]
    rfl
  | y :: r, w, h => by
    rw [join_two, List.length_cons, splitK, index_one _ _ _ (h w (List.mem_cons_self))]
    have h1 : ((w.length : Int) == -1) = false := by rw [beq_eq_false_iff_ne]; omega
    rw [h1]
    have ih := splitK_join c r y (fun x hx => h x (List.mem_cons_of_mem _ hx))
    have e : List.drop (w.length + 1) (w ++ c :: join (y :: r) [c]) = join (y :: r) [c] := by simp [List.drop_append]
    simp only [Bool.false_eq_true, if_false, Int.toNat_natCast, Nat.add_zero, List.length_cons, List.length_nil, Nat.zero_add, e, ih, List.take_left']
theorem count_join (c : UInt8) : ∀ (ws : List (List UInt8)) (w : List UInt8), (∀ x ∈ w :: ws, c ∉ x) → (join (w :: ws) [c]).count c = ws.length
  | [], w, h => by
    rw [join_one]
    exact List.count_eq_zero.2 (h w (List.mem_cons_self))
  | y :: r, w, h => by
    rw [join_two, List.count_append, List.count_cons_self, count_join c r y (fun x hx => h x (List.mem_cons_of_mem _ hx)), List.count_eq_zero.2 (h w (List.mem_cons_self))]
    simp
theorem split_join (c : UInt8) (ws : List (List UInt8)) (w : List UInt8) (h : ∀ x ∈ w :: ws, c ∉ x) : splitK [c] 0 (count (join (w :: ws) [c]) [c]) (join (w :: ws) [c]) = w :: ws := by
  rw [count_one, count_join c ws w h, splitK_join c ws w h]

/-- The parts between the blanks, byte for byte: 'cur' is what stands of the part under way. -/
def wd (c : UInt8) : List UInt8 → List UInt8 → List (List UInt8)
  | cur, [] => [cur]
  | cur, x :: r => if x = c then cur :: wd c [] r else wd c (cur ++ [x]) r
theorem wd_app (c : UInt8) (rest : List UInt8) : ∀ (w cur : List UInt8), c ∉ w → wd c cur (w ++ rest) = wd c (cur ++ w) rest
  | [], cur, _ => by simp
  | x :: w, cur, h => by
    have hx : ¬ x = c := fun e => h (by rw [e]; exact List.mem_cons_self)
    rw [List.cons_append, wd, if_neg hx, wd_app c rest w _ (fun hm => h (List.mem_cons_of_mem _ hm))]
    simp
theorem wd_join (c : UInt8) : ∀ (ws : List (List UInt8)) (w : List UInt8), (∀ x ∈ w :: ws, c ∉ x) → wd c [] (join (w :: ws) [c]) = w :: ws
  | [], w, h => by
    rw [join_one]
    have := wd_app c [] w [] (h w (List.mem_cons_self))
    rw [List.append_nil] at this
    rw [this]
    rfl
  | y :: r, w, h => by
    rw [join_two, wd_app c _ w [] (h w (List.mem_cons_self)), wd, if_pos rfl, wd_join c r y (fun x hx => h x (List.mem_cons_of_mem _ hx))]
    simp

/-- The numbers of a word, byte for byte: 'cur' is the number under way. -/
def nums : Int → List UInt8 → Option (List Int)
  | cur, [] => some [cur]
  | cur, x :: r => if x = 45 ∨ x = 64 then (nums 0 r).map (cur :: ·) else if 48 ≤ x.toNat ∧ x.toNat ≤ 57 then nums (min (10 * cur + ((x.toNat : Int) - 48)) 33554432) r else none
theorem decFrom_le : ∀ (l : List UInt8) (acc m : Nat), decFrom acc l = some m → acc ≤ m
  | [], acc, m, h => by
    simp only [decFrom, Option.some.injEq] at h
    omega
  | c :: l, acc, m, h => by
    simp only [decFrom] at h
    cases hd : digitVal c with
    | none => simp [hd] at h
    | some d =>
      simp only [hd] at h
      have := decFrom_le l _ m h
      omega
theorem nums_digits (rest : List UInt8) : ∀ (l : List UInt8) (acc m : Nat), decFrom acc l = some m → m ≤ 16777216 → nums (acc : Int) (l ++ rest) = nums (m : Int) rest
  | [], acc, m, h, _ => by
    simp only [decFrom, Option.some.injEq] at h
    subst h
    rfl
  | c :: l, acc, m, h, hm => by
    simp only [decFrom] at h
    cases hd : digitVal c with
    | none => simp [hd] at h
    | some d =>
      simp only [hd] at h
      obtain ⟨d1, d2, rfl⟩ := digitVal_eq hd
      have hle := decFrom_le l _ m h
      have h45 : ¬ (c = 45 ∨ c = 64) := by
        rintro (rfl | rfl)
        · exact absurd d1 (by decide)
        · exact absurd d2 (by decide)
      rw [List.cons_append, nums, if_neg h45, if_pos ⟨d1, d2⟩]
      have e : min (10 * (acc : Int) + ((c.toNat : Int) - 48)) 33554432 = ((acc * 10 + (c.toNat - 48) : Nat) : Int) := by omega
      rw [e]
      exact nums_digits rest l _ m h hm
theorem nums_dec (u : Nat) (rest : List UInt8) (hu : u ≤ 16777216) : nums 0 (decDigits u ++ rest) = nums (u : Int) rest := nums_digits rest _ 0 u (decFrom_dec u) hu

/-- The text of an event. -/
def spanT (a b : Nat) : List UInt8 := decDigits a ++ 45 :: decDigits b
def evT (lo hi al ah : Nat) (kn : Bool) : List UInt8 := spanT lo hi ++ (if kn then 64 :: spanT al ah else [])
theorem spanT_not {a b : Nat} (c : UInt8) (hc : c.toNat < 48 ∨ 57 < c.toNat) (h : c ≠ 45) : c ∉ spanT a b := by
  intro hm
  rcases List.mem_append.1 hm with hm | hm
  · exact dig_not (dig_dec a) c hc hm
  · rcases List.mem_cons.1 hm with rfl | hm
    · exact h rfl
    · exact dig_not (dig_dec b) c hc hm
theorem spanT_cut (a b : Nat) : cut (spanT a b) [45] = (decDigits a, decDigits b, true) := cut_at _ _ _ (dig_not (dig_dec a) 45 (by decide))
theorem evT_cut (lo hi al ah : Nat) (kn : Bool) : cut (evT lo hi al ah kn) [64] = (spanT lo hi, if kn then spanT al ah else [], kn) := by
  have h := spanT_not (a := lo) (b := hi) 64 (by decide) (by decide)
  cases kn
  · simp only [evT, Bool.false_eq_true, if_false, List.append_nil]
    exact cut_no _ _ h
  · simp only [evT, if_true]
    exact cut_at _ _ _ h
theorem evT_blank (lo hi al ah : Nat) (kn : Bool) : (32 : UInt8) ∉ evT lo hi al ah kn := by
  intro hm
  rcases List.mem_append.1 hm with hm | hm
  · exact spanT_not 32 (by decide) (by decide) hm
  · cases kn
    · simp at hm
    · rcases List.mem_cons.1 hm with h | hm
      · exact absurd h (by decide)
      · exact spanT_not 32 (by decide) (by decide) hm
theorem nums_span (a b : Nat) (rest : List UInt8) (ha : a ≤ 16777216) (hb : b ≤ 16777216) : nums 0 (spanT a b ++ rest) = (nums (b : Int) rest).map ((a : Int) :: ·) := by
  rw [spanT, List.append_assoc, nums_dec a _ ha, List.cons_append, nums, if_pos (Or.inl rfl), nums_dec b _ hb]
theorem evT_nums (lo hi al ah : Nat) (kn : Bool) (h1 : lo ≤ 16777216) (h2 : hi ≤ 16777216) (h3 : al ≤ 16777216) (h4 : ah ≤ 16777216) :
    nums 0 (evT lo hi al ah kn) = some (if kn then [(lo : Int), hi, al, ah] else [(lo : Int), hi]) := by
  rw [evT, nums_span _ _ _ h1 h2]
  cases kn
  · simp [nums]
  · have h5 : nums 0 (spanT al ah) = (nums (ah : Int) []).map ((al : Int) :: ·) := by
      have := nums_span al ah [] h3 h4
      rwa [List.append_nil] at this
    simp only [if_true]
    rw [nums, if_pos (Or.inr rfl), h5]
    simp [nums]
theorem spanT_len {a b : Nat} (ha : a < 100000000) (hb : b < 100000000) : (spanT a b).length ≤ 17 := by
  have := dec_len8 ha
  have := dec_len8 hb
  rw [spanT, List.length_append, List.length_cons]
  omega
theorem evT_len {lo hi al ah : Nat} (kn : Bool) (h1 : lo < 100000000) (h2 : hi < 100000000) (h3 : al < 100000000) (h4 : ah < 100000000) : (evT lo hi al ah kn).length ≤ 35 := by
  have := spanT_len h1 h2
  have := spanT_len h3 h4
  rw [evT, List.length_append]
  cases kn
  · simp
    omega
  · simp only [if_true, List.length_cons]
    omega
theorem join_len (c : UInt8) (m : Nat) : ∀ (ws : List (List UInt8)), (∀ x ∈ ws, x.length ≤ m) → (join ws [c]).length ≤ ws.length * (m + 1)
  | [], _ => by simp [join_nil]
  | [w], h => by
    rw [join_one]
    have := h w (List.mem_cons_self)
    simp
    omega
  | w :: y :: r, h => by
    rw [join_two, List.length_append, List.length_cons]
    have h1 := h w (List.mem_cons_self)
    have h2 := join_len c m (y :: r) (fun x hx => h x (List.mem_cons_of_mem _ hx))
    rw [List.length_cons] at h2
    simp only [List.length_cons]
    have e : (r.length + 1 + 1) * (m + 1) = (r.length + 1) * (m + 1) + (m + 1) := Nat.succ_mul _ _
    omega
end Go.Proofs.YtgiihjcpgjpkcaaGreatDoor.Q
