/- Contracts walked by hand and lemmas for them, as far as RefillDays needs them. -/
import Derived.Deep.RegionLaw
import Derived.Lib.SliceRun
import Derived.Lib.LazyBuf
import Derived.ArgAppend
import Derived.WalkKit
import Derived.Test.YtgiihjcpgjpkcaaDoorKQ0
namespace Go.Proofs.YtgiihjcpgjpkcaaDoor.Q
open Go.RowKit Go.Proofs.YtgiihjcpgjpkcaaDoorW.PrintWords Go.Proofs.YtgiihjcpgjpkcaaDoorW.PrintLast Go.Proofs.YtgiihjcpgjpkcaaDoorW.PrintMore
set_option linter.unusedVariables false
set_option linter.unusedSimpArgs false
def cells51 (x : S51) : List Value := [.int .i64 x.f0.f0, .int .i64 x.f0.f1, .int .i64 x.f1.f0, .int .i64 x.f1.f1]
theorem cells51_len (x : S51) : (cells51 x).length = 4 := rfl
theorem flat_len : ∀ (xs : List S51), (xs.flatMap cells51).length = xs.length * 4
  | [] => rfl
  | x :: xs => by rw [List.flatMap_cons, List.length_append, flat_len xs, cells51_len, List.length_cons]; omega
theorem flat_one {xs : List S51} : ∀ u ∈ xs.flatMap cells51, u.oneCell' = true := by
  intro u hu
  obtain ⟨x, _, hx⟩ := List.mem_flatMap.1 hu
  simp only [cells51, List.mem_cons, List.not_mem_nil, or_false] at hx
  rcases hx with rfl | rfl | rfl | rfl <;> rfl
theorem flat_take : ∀ (xs : List S51) (n : Nat), (xs.flatMap cells51).take (n * 4) = (xs.take n).flatMap cells51
  | [], n => by simp
  | x :: xs, 0 => by simp
  | x :: xs, n + 1 => by
    rw [List.flatMap_cons, List.take_succ_cons, List.flatMap_cons, show (n + 1) * 4 = (cells51 x).length + n * 4 from by rw [cells51_len]; omega, List.take_length_add_append, flat_take xs n]
theorem flat_drop : ∀ (xs : List S51) (n : Nat), (xs.flatMap cells51).drop (n * 4) = (xs.drop n).flatMap cells51
  | [], n => by simp
  | x :: xs, 0 => by simp
  | x :: xs, n + 1 => by
    rw [List.flatMap_cons, List.drop_succ_cons, show (n + 1) * 4 = (cells51 x).length + n * 4 from by rw [cells51_len]; omega, List.drop_length_add_append, flat_drop xs n]
def Row51 (W : World) (g co : Nat) (xs : List S51) : Prop := ∃ cur : Array Value, W.heap[g]? = some (.cells cur 51 (0, 0)) ∧ xs.length ≤ co ∧ co ≤ maxLen ∧ cur.size = co * 4 ∧ cur.toList.take (xs.length * 4) = xs.flatMap cells51
theorem reps_flat {w : World} {base : Nat} {ok : Nat → Prop} : ∀ (xs : List S51) (inner : List Value), Reps (k51.M w base ok) 4 xs inner → inner = xs.flatMap cells51
  | [], inner, h => by
    have := h.1
    simp at this
    rw [this]; rfl
  | x :: xs, inner, h => by
    have h0 := h.2 0 x rfl
    rw [Nat.zero_mul, List.drop_zero] at h0
    have h0' := k51_openM h0
    have hr : Reps (k51.M w base ok) 4 xs (inner.drop 4) := by
      refine ⟨by rw [List.length_drop, h.1, List.length_cons]; omega, fun j p hp => ?_⟩
      have := h.2 (j + 1) p (by rw [List.getElem?_cons_succ]; exact hp)
      rw [show (j + 1) * 4 = 4 + j * 4 from by omega, ← List.drop_drop] at this
      exact this
    rw [List.flatMap_cons, ← reps_flat xs _ hr, show cells51 x = inner.take 4 from h0'.symm, List.take_append_drop]
theorem flat_reps {w : World} {base : Nat} {ok : Nat → Prop} (xs : List S51) : Reps (k51.M w base ok) 4 xs (xs.flatMap cells51) := by
  refine ⟨flat_len xs, fun j p hp => ?_⟩
  rw [flat_drop, show (4 : Nat) = 1 * 4 from rfl, flat_take]
  have hl : j < xs.length := (List.getElem?_eq_some_iff.1 hp).1
  rw [List.drop_eq_getElem_cons hl]
  simp only [List.take_succ_cons, List.take_zero, List.flatMap_cons, List.flatMap_nil, List.append_nil]
  obtain rfl : xs[j] = p := (List.getElem?_eq_some_iff.1 hp).2
  exact k51_mkM _ _ _ _
theorem row_of_R {W : World} {base g n co : Nat} {xs : List S51} (h : Kd.R k51 51 W base (fun _ => True) (.slice (some ⟨g, 0, none⟩) n co) xs) : n = xs.length ∧ base ≤ g ∧ Row51 W g co xs := by
  obtain ⟨hn, hnc, _⟩ := Kd.R_reads' h
  obtain ⟨_, inner, ho, hr⟩ := h
  obtain rfl := reps_flat xs inner hr
  obtain ⟨ho1, ho2⟩ := ho
  rcases ho2 with ⟨hv, _⟩ | ⟨g', cap', cur, hv, hb, hh, hnc', hcm, hcs, ht⟩
  · cases hv
  injection hv with ha hn2 hc
  injection ha with ha
  injection ha with hg
  subst hg hc
  exact ⟨hn2, hb, cur, hh, hnc', hcm, hcs, ht⟩
theorem R_of_row {W : World} {base g co : Nat} {xs : List S51} (hb : base ≤ g) (h : Row51 W g co xs) : Kd.R k51 51 W base (fun _ => True) (.slice (some ⟨g, 0, none⟩) xs.length co) xs := by
  obtain ⟨cur, hh, hnc, hcm, hcs, ht⟩ := h
  exact ⟨fun _ _ => trivial, xs.flatMap cells51, ⟨flat_len xs, .inr ⟨g, co, cur, rfl, hb, hh, hnc, hcm, hcs, ht⟩⟩, flat_reps xs⟩
theorem Row51.drew {W : World} {g co : Nat} {xs : List S51} (h : Row51 W g co xs) : Row51 W.drew g co xs := h
theorem row_moved {W : World} {g co i : Nat} {xs : List S51} (h : Row51 W g co xs) (hi : i < xs.length) :
    ∃ cur, (W.setCells g (i * 4) ((xs.drop (i + 1)).flatMap cells51)).heap[g]? = some (.cells cur 51 (0, 0)) ∧ cur.size = co * 4 ∧ cur.toList.take ((xs.length - 1) * 4) = (xs.eraseIdx i).flatMap cells51 := by
  obtain ⟨cur, hh, hnc, hcm, hcs, ht⟩ := h
  have hl : ((xs.drop (i + 1)).flatMap cells51).length = (xs.length - (i + 1)) * 4 := by rw [flat_len, List.length_drop]
  obtain ⟨cur', h1, h2, h3⟩ := setCells_row ((xs.drop (i + 1)).flatMap cells51) (i * 4) W cur hh (by rw [hl, hcs]; omega)
  refine ⟨cur', h1, h2.trans hcs, ?_⟩
  have e1 : cur.toList.take (i * 4) = (xs.take i).flatMap cells51 := by
    rw [← flat_take, ← ht, List.take_take, Nat.min_eq_left (by omega)]
  rw [h3, e1, show (xs.length - 1) * 4 = ((xs.take i).flatMap cells51 ++ (xs.drop (i + 1)).flatMap cells51).length from by rw [List.length_append, hl, flat_len, List.length_take]; omega, List.take_left, ← List.flatMap_append, List.eraseIdx_eq_take_drop_succ]
theorem row_zeroed {W : World} {g co i : Nat} {xs : List S51} (h : Row51 W g co xs) (hi : i < xs.length) (zs : List Value) (hz : zs.length = 4) :
    Row51 ((W.setCells g (i * 4) ((xs.drop (i + 1)).flatMap cells51)).setCells g ((xs.length - 1) * 4) zs) g co (xs.eraseIdx i) := by
  obtain ⟨cur, h1, h2, h3⟩ := row_moved h hi
  obtain ⟨_, hh, hnc, hcm, hcs, ht⟩ := h
  obtain ⟨cur', q1, q2, q3⟩ := setCells_row zs ((xs.length - 1) * 4) _ cur h1 (by rw [hz, h2]; omega)
  have hle : (xs.eraseIdx i).length = xs.length - 1 := List.length_eraseIdx_of_lt hi
  refine ⟨cur', q1, by omega, hcm, q2.trans h2, ?_⟩
  have hsz : cur.toList.length = co * 4 := by simpa using h2
  rw [hle, q3, List.append_assoc, List.take_append_of_le_length (by rw [List.length_take, hsz]; omega), List.take_take, Nat.min_self, h3]
theorem row_cell {W : World} {g co : Nat} {xs : List S51} (h : Row51 W g co xs) (o : Nat) (ho : o < xs.length * 4) : W.cell? ⟨g, o, none⟩ = (xs.flatMap cells51)[o]? := by
  obtain ⟨cur, hh, hnc, hcm, hcs, ht⟩ := h
  rw [cell_of_row W g o cur 51 (0, 0) hh, ← ht, List.getElem?_take, if_pos ho, Array.getElem?_toList]
theorem row_frozen {W : World} {g co : Nat} {xs : List S51} (h : Row51 W g co xs) (o : Nat) : W.frozen? ⟨g, o, none⟩ = false := by
  obtain ⟨cur, hh, hnc, hcm, hcs, ht⟩ := h
  simp [World.frozen?, hh]
theorem blk_some {W : World} {g n : Nat} {cur : Array Value} (h : W.heap[g]? = some (.cells cur 51 (0, 0))) (o : Nat) (ho : o < cur.size) : (W.cell? ⟨g, o, none⟩).isSome = true := by
  rw [cell_of_row W g o cur 51 (0, 0) h, Array.getElem?_eq_getElem ho]; rfl
theorem run_clear_one (W : World) (ty : TypeId) (g o c : Nat) (hc : ∀ j, j < 4 → (W.cell? ⟨g, o + j, none⟩).isSome = true) (hf : ∀ j, j < 4 → W.frozen? ⟨g, o + j, none⟩ = false) :
    (Builtin.clear_ #[23] ty #[.slice (some ⟨g, o, none⟩) 1 c]).run Tryd.prog W = .ok (.tuple #[]) (W.setCells g o [.int .i64 0, .int .i64 0, .int .i64 0, .int .i64 0]) := by
  obtain ⟨i0, hi0, hz0, hz1, hz2⟩ := info_parts info51
  have hv : ∀ w, (zeroValue 51).run Tryd.prog w = .ok (.agg #[.int .i64 0, .int .i64 0, .int .i64 0, .int .i64 0]) w := fun w => by kernel_rfl
  have hzc : (Builtin.zeroCells (Value.agg #[.int .i64 0, .int .i64 0, .int .i64 0, .int .i64 0]).cells 1).toList = [.int .i64 0, .int .i64 0, .int .i64 0, .int .i64 0] := by kernel_rfl
  have hst := run_storeCells_cells (P := Tryd.prog) g o [.int .i64 0, .int .i64 0, .int .i64 0, .int .i64 0] 0 W (by simpa using hc) (by simpa using hf) (by intro v hv; simp only [List.mem_cons, List.not_mem_nil, or_false] at hv; rcases hv with rfl | rfl | rfl | rfl <;> rfl)
  simp only [Nat.add_zero] at hst
  simp [Builtin.clear_, run_underlying Tryd.underlying23, hv, hzc, hst]
set_option maxHeartbeats 8000000 in
set_option maxRecDepth 100000 in
theorem slices_DeleteDay.calls (g co i : Nat) (xs : List S51) (w : World) (hr : Row51 w g co xs) (hi : i < xs.length) :
    Calls Tryd.prog 83 #[.slice (some ⟨g, 0, none⟩) xs.length co, .int .i64 (i : Int), .int .i64 ((i + 1 : Nat) : Int)] w fun e w' => e = .returned (.slice (some ⟨g, 0, none⟩) (xs.length - 1) co) ∧ Row51 w' g co (xs.eraseIdx i) ∧ Below g w w' := by
  obtain ⟨i0, hi0, hz0, hz1, hz2⟩ := info_parts info51
  have hco : xs.length ≤ co := by obtain ⟨_, _, h, _⟩ := hr; exact h
  have hcm : co ≤ maxLen := by obtain ⟨_, _, _, h, _⟩ := hr; exact h
  obtain ⟨n, hn⟩ : ∃ n, n = xs.length := ⟨_, rfl⟩
  obtain ⟨news, hnews⟩ : ∃ news, news = (xs.drop (i + 1)).flatMap cells51 := ⟨_, rfl⟩
  have hlen : news.length = (n - (i + 1)) * 4 := by rw [hnews, flat_len, List.length_drop, hn]
  obtain ⟨A, hA, hsrc⟩ : ∃ A : Addr, (if co = i + 1 then some (⟨g, 0, none⟩ : Addr) else some ⟨g, (i + 1) * 4, none⟩) = some A ∧ Hid (∀ t u, news[t]? = some u → w.drew.cell? (A.add t) = some u) := by
    by_cases h : co = i + 1
    · refine ⟨⟨g, 0, none⟩, by simp [h], fun t u hu => ?_⟩
      have h0 : news.length = 0 := by rw [hlen]; omega
      rw [List.length_eq_zero_iff.1 h0] at hu
      simp at hu
    · refine ⟨⟨g, (i + 1) * 4, none⟩, by simp [h], fun t u hu => ?_⟩
      have ht : t < news.length := (List.getElem?_eq_some_iff.1 hu).1
      rw [hnews, ← flat_drop, List.getElem?_drop] at hu
      rw [Addr.add_lit]
      exact (row_cell hr _ (by omega)).trans hu
  have s1 : Hid (news.length = (n - (i + 1)) * 4) := hlen
  have s2 : Hid (∀ u ∈ news, u.oneCell' = true) := by rw [hnews]; exact flat_one
  have s3 : Hid (∀ t, t < news.length → (w.drew.cell? ⟨g, 0 + i * 4 + t, none⟩).isSome = true ∧ w.drew.frozen? ⟨g, 0 + i * 4 + t, none⟩ = false) := by
    intro t ht
    refine ⟨?_, row_frozen hr _⟩
    show (w.cell? _).isSome = true
    rw [row_cell hr _ (by omega), List.getElem?_eq_getElem (by rw [flat_len]; omega)]
    rfl
  obtain ⟨W1, hW1⟩ : ∃ W1, W1 = w.drew.setCells g (0 + i * 4) news := ⟨_, rfl⟩
  obtain ⟨cur, hcur, hcs, _⟩ := row_moved (Row51.drew hr) hi
  rw [← hnews] at hcur
  have hcur' : W1.heap[g]? = some (.cells cur 51 (0, 0)) := by rw [hW1, Nat.zero_add]; exact hcur
  have hcl : ∀ ty, (Builtin.clear_ #[23] ty #[.slice (some ⟨g, (n - 1) * 4, none⟩) 1 (co - (n - 1))]).run Tryd.prog W1 = .ok (.tuple #[]) (W1.setCells g ((n - 1) * 4) [.int .i64 0, .int .i64 0, .int .i64 0, .int .i64 0]) := fun ty =>
    run_clear_one W1 ty g _ _ (fun j hj => blk_some (n := 0) hcur' _ (by omega)) (fun j hj => by simp [World.frozen?, hcur'])
  have hfin : Row51 (W1.setCells g ((n - 1) * 4) [.int .i64 0, .int .i64 0, .int .i64 0, .int .i64 0]) g co (xs.eraseIdx i) := by
    rw [hW1, Nat.zero_add, hn, hnews]
    exact row_zeroed (Row51.drew hr) hi _ rfl
  have hbel : Below g w (W1.setCells g ((n - 1) * 4) [.int .i64 0, .int .i64 0, .int .i64 0, .int .i64 0]) := by
    rw [hW1]
    exact Go.below_setCells (Nat.le_refl _) _ _ _ (Go.below_setCells (Nat.le_refl _) _ _ _ (below_drew (Below.refl _ _)))
  have HFIN := Aside0.mk hfin
  have HBEL := Aside0.mk hbel
  have hW : Hid (W1 = w.drew.setCells g (0 + i * 4) news) := hW1
  have hic : i ≤ co := by omega
  have hjc : i + 1 ≤ co := by omega
  have hjn : i + 1 ≤ n := by omega
  have hle : n - 1 = i + (n - (i + 1)) := by omega
  have hne : ((i : Int) == ((i + 1 : Nat) : Int)) = false := by rw [beq_eq_false_iff_ne]; omega
  subst hn
  have hle' : i + (xs.length - (i + 1)) = xs.length - 1 := by omega
  have hcl2 : ∀ ty, (Builtin.clear_ #[23] ty #[.slice (some ⟨g, (i + (xs.length - (i + 1))) * 4, none⟩) (xs.length - (i + (xs.length - (i + 1)))) (co - (i + (xs.length - (i + 1))))]).run Tryd.prog W1 = .ok (.tuple #[]) (W1.setCells g ((xs.length - 1) * 4) [.int .i64 0, .int .i64 0, .int .i64 0, .int .i64 0]) := by
    intro ty
    rw [hle', show xs.length - (xs.length - 1) = 1 from by omega]
    exact hcl ty
  have HLE := Aside0.mk hle'
  clear hcl hle hle'
  have hp0 : (0 : Int) ≤ (i : Int) + 1 := by omega
  have hp1 : (i : Int) + 1 ≤ (xs.length : Int) := by omega
  have hmx : maxLen = 9223372036854775807 := rfl
  rw [hmx] at hcm
  clear hW1 hcur hcur' hfin hbel hlen hnews hr hcs hmx
  go_enter Tryd.func83, Tryd.ntmps83
  go_wp2_with fail
  go_region_law (refine step_append_room rfl (.tmp 22) (.tmp 25) 23 rfl 51 i0 4 Tryd.underlying23 hi0 hz1 g 0 i co (by simp [Act.eval, Act.put]) A (xs.length - (i + 1)) (co - (i + 1)) news (by simp [Act.eval, Act.put]) s1.out hsrc.out s2.out (by omega) s3.out ?_; rw [← hW.out])
  go_wp2
  go_ret
  exact ⟨by rw [← HLE.out]; rfl, HFIN.out, HBEL.out⟩
end Go.Proofs.YtgiihjcpgjpkcaaDoor.Q
