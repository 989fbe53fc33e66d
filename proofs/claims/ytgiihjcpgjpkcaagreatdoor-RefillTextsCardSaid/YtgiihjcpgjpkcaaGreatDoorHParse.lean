/- What Parse comes to, the program's and the reference's, at every text; no program in sight. -/
import Derived.Test.YtgiihjcpgjpkcaaGreatDoorHPrint
import Derived.Test.YtgiihjcpgjpkcaaGreatDoorHSpan
import Derived.Test.YtgiihjcpgjpkcaaGreatDoorQTB
import Derived.Test.YtgiihjcpgjpkcaaGreatDoorQTC
import Derived.Test.YtgiihjcpgjpkcaaGreatDoorQTD
namespace Go.Proofs.YtgiihjcpgjpkcaaGreatDoor.Q
open Go.RowKit Go.Lib Go.Proofs.YtgiihjcpgjpkcaaGreatDoorW.PrintWords Go.Proofs.YtgiihjcpgjpkcaaGreatDoorW.PrintLast Go.Proofs.YtgiihjcpgjpkcaaGreatDoorW.PrintMore
set_option linter.unusedVariables false
set_option linter.unusedSimpArgs false

theorem bt_get (s : ByteArray) (i : Nat) (h : i < s.size) : ∃ b : UInt8, s.data.toList[i]? = some b ∧ bt s (i : Int) = (b.toNat : Int) ∧ s.data.toList.drop i = b :: s.data.toList.drop (i + 1) ∧ s.extract i (i + 1) = tb [b] := by
  have hl : i < s.data.toList.length := by simpa using h
  refine ⟨s.data.toList[i], List.getElem?_eq_getElem hl, ?_, List.drop_eq_getElem_cons hl, ?_⟩
  · unfold bt
    rw [dif_pos (by rw [Int.toNat_natCast]; exact h)]
    simp only [Int.toNat_natCast]
    congr 1
  · apply Go.WideShapes.bytes_inj
    rw [extract_data, tb_data, List.drop_eq_getElem_cons hl, show i + 1 - i = 1 by omega]
    rfl
theorem words_l0 (s : ByteArray) (hs : s.size ≤ 5000) : ∀ (m k i : Nat) (out : List (List UInt8)) (cur : List UInt8), s.size = i + m → m < k → out.length ≤ i → cur.length ≤ i →
    waterhourref04_words.l0 k s (out.map tb ++ [tb cur]) i = some ((out ++ wd 32 cur (s.data.toList.drop i)).map tb)
  | 0, k, i, out, cur, hi, hk, ho, hc => by
    obtain ⟨k, rfl⟩ : ∃ m, k = m + 1 := ⟨k - 1, by omega⟩
    have hl : s.data.toList.length = s.size := by simp
    simp only [waterhourref04_words.l0]
    rw [if_neg (by omega), List.drop_of_length_le (by omega), wd]
    simp
  | m + 1, k, i, out, cur, hi, hk, ho, hc => by
    obtain ⟨k, rfl⟩ : ∃ m, k = m + 1 := ⟨k - 1, by omega⟩
    obtain ⟨b, hb1, hb2, hb3, hb4⟩ := bt_get s i (by omega)
    have w1 : wrap64 ((i : Int) + 1) = ((i + 1 : Nat) : Int) := by unfold wrap64; omega
    have hlen : (out.map tb ++ [tb cur]).length = out.length + 1 := by simp
    simp only [waterhourref04_words.l0]
    rw [if_pos (by omega), if_pos (by omega), hb2, hb3, w1, hlen]
    by_cases h32 : b = 32
    · have e : out.map tb ++ [tb cur] ++ [(⟨#[]⟩ : ByteArray)] = (out ++ [cur]).map tb ++ [tb []] := by simp [tb_nil]
      rw [if_pos (by subst h32; rfl), if_pos (by omega), wd, if_pos h32, e, words_l0 s hs m k (i + 1) (out ++ [cur]) [] (by omega) (by omega) (by simp; omega) (by simp)]
      simp
    · have hne : ¬ (b.toNat : Int) = 32 := fun h => h32 (UInt8.toNat_inj.1 (show b.toNat = (32 : UInt8).toNat from by have : (32 : UInt8).toNat = 32 := rfl; omega))
      have w2 : wrap64 (((out.length + 1 : Nat) : Int) - 1) = ((out.length : Nat) : Int) := by unfold wrap64; omega
      have hrd : rdOf ByteArray.empty (out.map tb ++ [tb cur]) (out.length : Int) = tb cur := by
        unfold rdOf
        rw [Int.toNat_natCast, List.getD_eq_getElem?_getD, List.getElem?_append_right (by simp)]
        simp
      have hset : (out.map tb ++ [tb cur]).set out.length (tb (cur ++ [b])) = out.map tb ++ [tb (cur ++ [b])] := by
        rw [List.set_append_right _ _ (by simp)]
        simp
      rw [if_neg hne, w2, if_pos (by omega), if_pos (by omega), if_pos (by omega), if_pos (by omega), hrd]
      simp only [Int.toNat_natCast]
      rw [hb4, if_pos (by rw [tb_size, tb_size]; simp; omega), tb_app, hset, wd, if_neg h32]
      exact words_l0 s hs m k (i + 1) out (cur ++ [b]) (by omega) (by omega) (by omega) (by simp; omega)
theorem words_eq (s : ByteArray) (hs : s.size ≤ 5000) (k : Nat) (hk : 5001 ≤ k) : waterhourref04_words.f k s = some ((wd 32 [] s.data.toList).map tb) := by
  unfold waterhourref04_words.f
  have := words_l0 s hs s.size k 0 [] [] (by omega) (by omega) (by simp) (by simp)
  rw [Int.natCast_zero] at this
  simpa [tb_nil] using this
theorem wd_len (c : UInt8) (n : Nat) : ∀ (l cur : List UInt8), cur.length + l.length ≤ n → (∀ x ∈ wd c cur l, x.length ≤ n) ∧ (wd c cur l).length ≤ l.length + 1
  | [], cur, h => by
    rw [wd]
    exact ⟨fun x hx => by obtain rfl := List.mem_singleton.1 hx; simp at h; omega, by simp⟩
  | x :: l, cur, h => by
    rw [List.length_cons] at h
    rw [wd]
    split
    · have ih := wd_len c n l [] (by simp; omega)
      refine ⟨fun y hy => ?_, by simp; exact ih.2⟩
      rcases List.mem_cons.1 hy with rfl | hy
      · omega
      · exact ih.1 y hy
    · have ih := wd_len c n l (cur ++ [x]) (by simp; omega)
      exact ⟨ih.1, by simp; omega⟩

/-- What 'numbers' comes to. -/
def numR (init : List Int) : Option (List Int) → List Int × Bool
  | some r => (init ++ r, true)
  | none => ([], false)
theorem numR_cons (init : List Int) (cur : Int) (o : Option (List Int)) : numR init (o.map (cur :: ·)) = numR (init ++ [cur]) o := by
  cases o <;> simp [numR]
theorem numbers_l0 (s : ByteArray) (hs : s.size ≤ 5000) : ∀ (m k i : Nat) (init : List Int) (cur : Int), s.size = i + m → 2 * m < k → init.length ≤ i → 0 ≤ cur → cur ≤ 33554432 →
    waterhourref04_numbers.l0 k s (init ++ [cur]) i = some (numR init (nums cur (s.data.toList.drop i)))
  | 0, k, i, init, cur, hi, hk, ho, h0, h1 => by
    obtain ⟨k, rfl⟩ : ∃ m, k = m + 1 := ⟨k - 1, by omega⟩
    have hl : s.data.toList.length = s.size := by simp
    simp only [waterhourref04_numbers.l0]
    rw [if_neg (by omega), List.drop_of_length_le (by omega), nums]
    rfl
  | m + 1, k, i, init, cur, hi, hk, ho, h0, h1 => by
    obtain ⟨k, rfl⟩ : ∃ m, k = m + 1 + 1 := ⟨k - 2, by omega⟩
    obtain ⟨b, hb1, hb2, hb3, hb4⟩ := bt_get s i (by omega)
    have w1 : wrap64 ((i : Int) + 1) = ((i + 1 : Nat) : Int) := by unfold wrap64; omega
    have hlen : (init ++ [cur]).length = init.length + 1 := by simp
    have key : ∀ q : Bool, q = decide (b = 45 ∨ b = 64) → waterhourref04_numbers.j1 (k + 1) s (init ++ [cur]) i ((init ++ [cur]).length : Int) q = some (numR init (nums cur (s.data.toList.drop i))) := by
      intro q hq
      simp only [waterhourref04_numbers.j1]
      rw [hb2, hb3, w1, hlen]
      by_cases hsep : b = 45 ∨ b = 64
      · rw [hq, decide_eq_true hsep, if_pos rfl, if_pos (by omega), nums, if_pos hsep, numR_cons]
        exact numbers_l0 s hs m k (i + 1) (init ++ [cur]) 0 (by omega) (by omega) (by simp; omega) (by omega) (by omega)
      · rw [hq, decide_eq_false hsep, if_neg (by decide), if_pos (by omega), if_pos (by omega), nums, if_neg hsep]
        by_cases hd : 48 ≤ b.toNat ∧ b.toNat ≤ 57
        · have w2 : wrap64 (((init.length + 1 : Nat) : Int) - 1) = ((init.length : Nat) : Int) := by unfold wrap64; omega
          have hrd : rd (init ++ [cur]) (init.length : Int) = cur := by
            unfold rd
            rw [Int.toNat_natCast, List.getD_eq_getElem?_getD, List.getElem?_append_right (by simp)]
            simp
          have hv : mn (wrap64 ((wrap64 (10 * cur)) + (((b.toNat : Int) - 48) % 256))) 33554432 = min (10 * cur + ((b.toNat : Int) - 48)) 33554432 := by
            have e1 : wrap64 (10 * cur) = 10 * cur := by unfold wrap64; omega
            have e2 : ((b.toNat : Int) - 48) % 256 = (b.toNat : Int) - 48 := by omega
            have e3 : wrap64 (10 * cur + ((b.toNat : Int) - 48)) = 10 * cur + ((b.toNat : Int) - 48) := by unfold wrap64; omega
            rw [e1, e2, e3]
            unfold mn
            split <;> omega
          have hset : ∀ v : Int, (init ++ [cur]).set init.length v = init ++ [v] := fun v => by
            rw [List.set_append_right _ _ (by simp)]
            simp
          rw [if_pos (by omega), if_pos (by omega), w2, if_pos (by omega), if_pos (by omega), hrd, hv, if_pos hd]
          simp only [Int.toNat_natCast]
          rw [hset]
          exact numbers_l0 s hs m k (i + 1) init _ (by omega) (by omega) (by omega) (by omega) (by omega)
        · rw [if_neg hd]
          by_cases h48 : (b.toNat : Int) ≥ 48
          · rw [if_pos h48, if_neg (by omega)]
            rfl
          · rw [if_neg h48]
            rfl
    have e45 : ((b.toNat : Int) = 45) ↔ b = 45 := ⟨fun h => UInt8.toNat_inj.1 (show b.toNat = (45 : UInt8).toNat from by have : (45 : UInt8).toNat = 45 := rfl; omega), fun h => by subst h; rfl⟩
    have e64 : ((b.toNat : Int) = 64) ↔ b = 64 := ⟨fun h => UInt8.toNat_inj.1 (show b.toNat = (64 : UInt8).toNat from by have : (64 : UInt8).toNat = 64 := rfl; omega), fun h => by subst h; rfl⟩
    simp only [waterhourref04_numbers.l0]
    rw [if_pos (by omega), if_pos (by omega), hb2]
    by_cases h45 : b = 45
    · rw [if_pos (e45.2 h45)]
      exact key true (decide_eq_true (Or.inl h45)).symm
    · rw [if_neg (fun h => h45 (e45.1 h))]
      refine key _ ?_
      rw [Bool.eq_iff_iff, beq_iff_eq, decide_eq_true_eq, e64]
      exact ⟨Or.inr, fun h => h.resolve_left h45⟩
theorem numbers_eq (s : ByteArray) (hs : s.size ≤ 5000) (k : Nat) (hk : 10001 ≤ k) : waterhourref04_numbers.f k s = some (numR [] (nums 0 s.data.toList)) := by
  unfold waterhourref04_numbers.f
  have := numbers_l0 s hs s.size k 0 [] 0 (by omega) (by omega) (by simp) (by omega) (by omega)
  rw [Int.natCast_zero] at this
  simpa using this

/-- An event out of the numbers of a word. -/
def evN : Option (List Int) → Option S37
  | some [a, b] => some ⟨⟨a, b⟩, ⟨1, 0⟩⟩
  | some [a, b, c, d] => some ⟨⟨a, b⟩, ⟨c, d⟩⟩
  | _ => none
/-- The events out of words, one behind the other. -/
def evs (f : List UInt8 → Option S37) : List (List UInt8) → Option (List S37)
  | [] => some []
  | w :: r => (f w).bind fun e => (evs f r).map (e :: ·)
/-- What a text comes to, out of its events: they are the day with just this text, or an error. -/
def fin (L : List UInt8) (acc : List S37) : Option (List S37) → List S37 × Int
  | some d => if vd (acc ++ d) = true ∧ dayT (acc ++ d) = L then (acc ++ d, 0) else ([], 3)
  | none => ([], 3)
theorem fin_cons (L : List UInt8) (acc : List S37) (e : S37) (o : Option (List S37)) : fin L acc (o.map (e :: ·)) = fin L (acc ++ [e]) o := by
  cases o <;> simp [fin]
theorem fin_end (L : List UInt8) (x : ByteArray) (hx : x.data.toList = L) (acc : List S37) (p : Option (ByteArray × Int)) (hp : p = some (if vd acc = true then (tb (dayT acc), 0) else (tb [], 40))) :
    (p.bind fun bt339 => (if bt339.2 = 0 then (if bt339.1.toList = x.toList then (some (acc, (0 : Int))) else (some (([] : List (S37)), 3))) else (some (([] : List (S37)), 3)))) = some (fin L acc (some [])) := by
  rw [hp]
  simp only [Option.bind_some, fin, List.append_nil]
  by_cases hv : vd acc = true
  · rw [if_pos hv, if_pos rfl]
    simp only [toList_data, tb_data, hx]
    by_cases h : dayT acc = L
    · rw [if_pos h, if_pos ⟨hv, h⟩]
    · rw [if_neg h, if_neg (fun q => h q.2)]
  · rw [if_neg hv, if_neg (by decide), if_neg (fun q => hv q.1)]
theorem rd_words (ws : List (List UInt8)) (j : Nat) (h : j < ws.length) : rdOf ByteArray.empty (ws.map tb) (j : Int) = tb (ws[j]'h) := by
  unfold rdOf
  rw [Int.toNat_natCast, List.getD_eq_getElem?_getD, List.getElem?_map, List.getElem?_eq_getElem h]
  rfl

theorem rParse_l0 (x : ByteArray) (ws : List (List UInt8)) (hn : ws.length ≤ 5001) (hw : ∀ w ∈ ws, w.length ≤ 5000) : ∀ (m k j : Nat) (acc : List S37), ws.length = j + m → 2 * m + 11000 < k → acc.length ≤ j →
    waterhourref04_Parse.l0 k x (ws.map tb) acc j = some (fin x.data.toList acc (evs (fun w => evN (nums 0 w)) (ws.drop j)))
  | 0, k, j, acc, hj, hk, ha => by
    obtain ⟨k, rfl⟩ : ∃ m, k = m + 1 := ⟨k - 1, by omega⟩
    simp only [waterhourref04_Parse.l0]
    rw [if_neg (by simp; omega), List.drop_of_length_le (by omega), evs]
    exact fin_end _ x rfl acc _ (rPrint_eq acc k (by omega))
  | m + 1, k, j, acc, hj, hk, ha => by
    obtain ⟨k, rfl⟩ : ∃ m, k = m + 1 + 1 := ⟨k - 2, by omega⟩
    have hj' : j < ws.length := by omega
    have w1 : wrap64 ((j : Int) + 1) = ((j + 1 : Nat) : Int) := by unfold wrap64; omega
    have hlt : acc.length < 4398046511104 := by omega
    have ih := fun e => rParse_l0 x ws hn hw m k (j + 1) (acc ++ [e]) (by omega) (by omega) (by simp; omega)
    rw [List.drop_eq_getElem_cons hj', evs]
    simp only [waterhourref04_Parse.l0]
    rw [if_pos (by simp; omega), if_pos (by omega), rd_words ws j hj', numbers_eq _ (by rw [tb_size]; exact hw _ (List.getElem_mem hj')) _ (by omega), tb_data]
    generalize nums 0 ws[j] = o
    have stop : ∀ l : List Int, waterhourref04_Parse.j1 (k + 1) x (ws.map tb) acc j l true = some (([] : List S37), 3) := fun l => by
      simp only [waterhourref04_Parse.j1]
      rfl
    cases o with
    | none =>
      rw [show numR [] (none : Option (List Int)) = (([] : List Int), false) from rfl, Option.bind_some]
      dsimp only
      rw [if_neg (by decide)]
      exact (stop _).trans rfl
    | some l =>
      rw [show numR [] (some l) = (l, true) from rfl, Option.bind_some]
      dsimp only
      rw [if_pos rfl]
      match l with
      | [] =>
        rw [if_neg (by simp)]
        exact (stop _).trans rfl
      | [a] =>
        rw [if_neg (by simp)]
        exact (stop _).trans rfl
      | [a, b] =>
        rw [if_pos (by simp)]
        simp only [waterhourref04_Parse.j1, evN, Option.bind_some]
        rw [if_neg (by decide), if_pos (by simp), if_pos (by simp), if_neg (by simp), if_pos hlt, w1, fin_cons]
        exact ih _
      | [a, b, c] =>
        rw [if_neg (by simp)]
        exact (stop _).trans rfl
      | [a, b, c, d] =>
        rw [if_neg (by simp)]
        simp only [waterhourref04_Parse.j1, evN, Option.bind_some]
        rw [if_neg (by simp), if_pos (by simp), if_pos (by simp), if_pos (by simp), if_pos (by simp), if_pos (by simp), if_pos hlt, w1, fin_cons]
        exact ih _
      | a :: b :: c :: d :: e :: r =>
        have hne : (((a :: b :: c :: d :: e :: r).length : Nat) : Int) ≠ 4 := by simp; omega
        rw [if_neg (by simp; omega), bne_iff_ne.2 hne]
        exact (stop _).trans rfl
theorem rParse_eq (s : ByteArray) (k : Nat) (hk : 22000 ≤ k) : waterhourref04_Parse.f k s = some (if s.data.toList.length > 1200 then ([], 3) else fin s.data.toList [] (evs (fun w => evN (nums 0 w)) (wd 32 [] s.data.toList))) := by
  have hl : s.data.toList.length = s.size := by simp
  unfold waterhourref04_Parse.f
  by_cases h : s.data.toList.length > 1200
  · rw [if_pos (by omega), if_pos h]
  · have hw := wd_len 32 5000 s.data.toList [] (by simp; omega)
    rw [if_neg (by omega), if_neg h, words_eq s (by omega) k (by omega)]
    simp only [Option.bind_some]
    have := rParse_l0 s (wd 32 [] s.data.toList) (by omega) hw.1 (wd 32 [] s.data.toList).length k 0 [] (by omega) (by omega) (by simp)
    rw [Int.natCast_zero, List.drop_zero] at this
    exact this

/-- An event out of a word, as the program reads it. -/
def evP (w : List UInt8) : Option S37 :=
  if (spanV (cut w [64]).1).2.2 = true then
    (if (cut w [64]).2.2 = true then (if (spanV (cut w [64]).2.1).2.2 = true then some ⟨⟨(spanV (cut w [64]).1).1, (spanV (cut w [64]).1).2.1⟩, ⟨(spanV (cut w [64]).2.1).1, (spanV (cut w [64]).2.1).2.1⟩⟩ else none)
     else some ⟨⟨(spanV (cut w [64]).1).1, (spanV (cut w [64]).1).2.1⟩, ⟨1, 0⟩⟩) else none
theorem cut_len (s sep : List UInt8) : (cut s sep).1.length ≤ s.length ∧ (cut s sep).2.1.length ≤ s.length := by
  unfold cut
  split
  · simp
    omega
  · simp
theorem Cut_eq (w : List UInt8) (c : UInt8) (h : w.length ≤ 5000) : strings_Cut.f (tb w) (⟨#[c]⟩ : ByteArray) = some (tb (cut w [c]).1, tb (cut w [c]).2.1, (cut w [c]).2.2) := by
  unfold strings_Cut.f
  rw [if_pos (by rw [tb_size]; omega), tb_data]
  rfl
theorem spanOf_eq (w : List UInt8) (h : w.length ≤ 5000) : refill_spanOf.f (tb w) = some (spanV w) := by
  unfold refill_spanOf.f
  rw [if_pos (by rw [tb_size]; omega), tb_data]
theorem Parse_l0 (x : ByteArray) (ws : List (List UInt8)) (hn : ws.length ≤ 5001) (hw : ∀ w ∈ ws, w.length ≤ 5000) : ∀ (m k j : Nat) (acc : List S37), ws.length = j + m → m + 100 < k → acc.length ≤ j →
    refill_Parse.l0 k x acc (ws.map tb) (ws.length : Int) j = some (fin x.data.toList acc (evs evP (ws.drop j)))
  | 0, k, j, acc, hj, hk, ha => by
    obtain ⟨k, rfl⟩ : ∃ m, k = m + 1 := ⟨k - 1, by omega⟩
    simp only [refill_Parse.l0]
    rw [if_neg (by omega), List.drop_of_length_le (by omega), evs]
    exact fin_end _ x rfl acc _ (Print_eq acc k (by omega))
  | m + 1, k, j, acc, hj, hk, ha => by
    obtain ⟨k, rfl⟩ : ∃ m, k = m + 1 := ⟨k - 1, by omega⟩
    have hj' : j < ws.length := by omega
    have w1 : wrap64 ((j : Int) + 1) = ((j + 1 : Nat) : Int) := by unfold wrap64; omega
    have hlt : acc.length < 4398046511104 := by omega
    have ih := fun e => Parse_l0 x ws hn hw m k (j + 1) (acc ++ [e]) (by omega) (by omega) (by simp; omega)
    have hwj := hw _ (List.getElem_mem hj')
    have hc := cut_len ws[j] [64]
    rw [List.drop_eq_getElem_cons hj', evs]
    simp only [refill_Parse.l0, refill_unknown.f]
    rw [if_pos (by omega), if_pos (by omega), if_pos (by simp; omega), rd_words ws j hj', Cut_eq _ _ hwj]
    simp only [Option.bind_some]
    rw [spanOf_eq _ (by omega), spanOf_eq _ (by omega)]
    simp only [Option.bind_some]
    generalize evs evP (List.drop (j + 1) ws) = R at ih ⊢
    unfold evP
    generalize spanV (cut ws[j] [64]).1 = p
    generalize spanV (cut ws[j] [64]).2.1 = q
    generalize (cut ws[j] [64]).2.2 = b
    obtain ⟨p1, p2, p3⟩ := p
    obtain ⟨q1, q2, q3⟩ := q
    cases b <;> cases p3 <;> cases q3 <;> simp only [Bool.false_eq_true, if_false, if_true, Option.bind_none, Option.bind_some] <;> first | rfl | (rw [if_pos hlt, w1, fin_cons]; exact ih _)
theorem splitB_sizes (sep : ByteArray) (n : Nat) : ∀ (k : Nat) (s : ByteArray), s.size ≤ n → ∀ x ∈ splitB sep 0 k s, x.size ≤ n
  | 0, s, h, x, hx => by
    obtain rfl := List.mem_singleton.1 hx
    exact h
  | k + 1, s, h, x, hx => by
    unfold splitB at hx
    split at hx
    · obtain rfl := List.mem_singleton.1 hx
      exact h
    · rcases List.mem_cons.1 hx with rfl | hx
      · rw [ByteArray.size_extract]
        omega
      · exact splitB_sizes sep n k _ (by rw [ByteArray.size_extract]; omega) x hx
theorem Parse_eq (s : ByteArray) (hs : s.size ≤ 5000) (k : Nat) (hk : 6000 ≤ k) : refill_Parse.f k s = some (fin s.data.toList [] (evs evP (splitK [32] 0 (count s.data.toList [32]) s.data.toList))) := by
  unfold refill_Parse.f strings_Split.f
  have h1 : (⟨#[32]⟩ : ByteArray).size = 1 := rfl
  rw [if_pos ⟨by omega, by omega⟩]
  simp only [Option.bind_some]
  have hle := countB_le (⟨#[32]⟩ : ByteArray) (by omega) s.size s (Nat.le_refl _)
  have hlen := splitB_length_le (⟨#[32]⟩ : ByteArray) 0 (countB s (⟨#[32]⟩ : ByteArray)) s
  have hd := splitB_data (⟨#[32]⟩ : ByteArray) 0 (countB s (⟨#[32]⟩ : ByteArray)) s
  have hz := splitB_sizes (⟨#[32]⟩ : ByteArray) 5000 (countB s (⟨#[32]⟩ : ByteArray)) s hs
  have hc : countB s (⟨#[32]⟩ : ByteArray) = count s.data.toList [32] := rfl
  rw [hc] at hle hlen hd hz ⊢
  generalize splitB (⟨#[32]⟩ : ByteArray) 0 (count s.data.toList [32]) s = B at hlen hd hz ⊢
  have hd' : B.map (·.data.toList) = splitK [32] 0 (count s.data.toList [32]) s.data.toList := hd
  rw [← hd']
  have hB : B = (B.map (·.data.toList)).map tb := by
    rw [List.map_map]
    conv => lhs; rw [← List.map_id B]
    exact List.map_congr_left fun x _ => tb_of x
  have hlB : (B.map (·.data.toList)).length = B.length := by simp
  have := Parse_l0 s (B.map (·.data.toList)) (by omega) (fun w hw => by
    obtain ⟨x, hx, rfl⟩ := List.mem_map.1 hw
    have := hz x hx
    simpa using this) (B.map (·.data.toList)).length k 0 [] (by omega) (by omega) (by simp)
  rw [Int.natCast_zero, List.drop_zero, ← hB, hlB] at this
  exact this
end Go.Proofs.YtgiihjcpgjpkcaaGreatDoor.Q
