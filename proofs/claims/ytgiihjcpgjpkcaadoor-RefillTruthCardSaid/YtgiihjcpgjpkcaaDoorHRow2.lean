/- The arguments of the rows, opened: a list that is handed on beside others (its footprint), a list of bools. -/
import Derived.Test.YtgiihjcpgjpkcaaDoorHRow
namespace Go.Proofs.YtgiihjcpgjpkcaaDoor.Q
open Go.RowKit Go.ChangeShapes Go.WideShapes Go.ChangeAt Go.Deep Go.Proofs.YtgiihjcpgjpkcaaDoorW.PrintWords Go.Proofs.YtgiihjcpgjpkcaaDoorW.PrintLast Go.Proofs.YtgiihjcpgjpkcaaDoorW.PrintMore
set_option linter.unusedVariables false
theorem C_foot {α : Type} (d : Kd α) (hK : ∀ (w w' : World) (x : α) (cs : List Value), d.K w x cs → d.K w' x cs) {w : World} {A : Option Addr} {n : Nat} {xs : List α} (h : d.C w A n xs) : Kd.F d w (fun _ => True) A n xs := by
  intro W' hW
  refine ⟨h.1, h.2.1, fun hn => ?_⟩
  obtain ⟨ad, e, hc⟩ := h.2.2 hn
  refine ⟨ad, e, fun j p hj => ?_⟩
  obtain ⟨c, hs, hr, hcell⟩ := hc j p hj
  refine ⟨c, hs, hK _ _ _ _ hr, fun i u hu => ?_⟩
  have := hcell i u hu
  rw [World.cell?_of_block (hW _ trivial (World.block_lt_of_cell? w _ this))]
  exact this
theorem V_int {w : World} {A : Option Addr} {c : Nat} {l : List Int} (h : Kd.C (Kd.int .i64) w A l.length l) (hc : l.length ≤ c) : Kd.V (Kd.int .i64) 3 w w.heap.size (fun k_ => (fun _ => True) k_) (.slice A l.length c) l :=
  Kd.V_mk hc (C_foot _ (fun _ _ _ _ h => h) h)
theorem V_day {w : World} {A : Option Addr} {c : Nat} {l : List S51} (h : Kd.C k51 w A l.length l) (hc : l.length ≤ c) : Kd.V k51 51 w w.heap.size (fun k_ => (fun _ => True) k_) (.slice A l.length c) l :=
  Kd.V_mk hc (C_foot _ (fun _ _ _ _ h => h) h)
theorem cellsOf4 : Tryd.prog.cellsOf 4 = 1 := by kernel_rfl
theorem open_bools {H : Type} {enc : TypeId × Value → H} {W : World} {base : Nat} {spare : Nat → Bool} {held : Bool} {v : Value} {d : DataW H} {p : List MemPlace} (h : DataW.Trod enc Tryd.prog W base spare held 72 v d p) :
    ∃ A len cap, ∃ l : List Bool, v.cells.toList = [.slice A len cap] ∧ len ≤ cap ∧ l.length = len ∧ Kd.C Kd.bool W A len l := by
  obtain ⟨fuel, hf⟩ := h
  rcases open_slice1 Tryd.underlying72 cellsOf4 hf with ⟨hcs, _⟩ | ⟨a, len, cap, m, n, V, D, Pl, hcs, hb, hl, hm, hmm, hx, hi⟩
  · exact ⟨none, 0, 0, [], hcs, Nat.le_refl _, rfl, Kd.C_nil _ _⟩
  · have hlm : len ≤ m := by rw [hmm]; split <;> omega
    have hex : ∀ i, i < len → ∃ e : Bool, W.cell? (a.add i) = some (.bool e) := by
      intro i hil
      obtain ⟨hc, ht⟩ := hi i (by omega)
      obtain ⟨e, he, _⟩ := DataW.trod_bool Tryd.underlying4 ht
      rw [List.cons.injEq] at he
      exact ⟨e, by rw [hc, he.1]⟩
    obtain ⟨f, hfx⟩ := choose_lt (α := Bool) (p := fun i e => W.cell? (a.add i) = some (.bool e)) hex
    refine ⟨some a, len, cap, (List.range len).map f, hcs, hl, by simp, Kd.C_of_reads (d := false) (h1 := fun _ => rfl) ⟨by simp, Nat.le_trans hl hm, fun hn => ⟨a, rfl, fun j hj => ?_⟩⟩⟩
    rw [hfx j hj, List.getD_eq_getElem?_getD, List.getElem?_map, List.getElem?_range hj]
    rfl
set_option maxRecDepth 100000 in
theorem open_span {H : Type} {enc : TypeId × Value → H} {W : World} {base base0 : Nat} {spare : Nat → Bool} {held : Bool} {v : Value} {d : DataW H} {p : List MemPlace} (hv : Value.okWide Tryd.prog W .any base0 49 v) (h : DataW.Trod enc Tryd.prog W base spare held 49 v d p) :
    ∃ a b : Int, v = .agg #[.int .i64 a, .int .i64 b] ∧ d = .agg [.lit (.int .i64 a), .lit (.int .i64 b)] ∧ p = [] ∧
      ∀ (W' : World) (base' : Nat) (spare' : Nat → Bool) (held' : Bool), DataW.Trod enc Tryd.prog W' base' spare' held' 49 (.agg #[.int .i64 a, .int .i64 b]) (.agg [.lit (.int .i64 a), .lit (.int .i64 b)]) [] := by
  simp only [Value.okWide, Tryd.underlying49] at hv
  obtain ⟨cs, rfl, hs, _⟩ := hv
  obtain ⟨fuel, hf⟩ := h
  obtain ⟨y0, y1, n, hx, hl, h0, h1⟩ := trod_struct2 Tryd.underlying49 hf
  rw [cellsOf49] at hl
  obtain ⟨a, ha, hxa, hwa⟩ := DataW.trod_int Tryd.underlying3 h0
  obtain ⟨b, hb, hxb, hwb⟩ := DataW.trod_int Tryd.underlying3 h1
  simp only [cellsOf3] at ha hb
  have e : (Value.agg cs).cells.toList = [.int .i64 a, .int .i64 b] := by
    have e : (Value.agg cs).cells.toList = (Value.agg cs).cells.toList.take 1 ++ ((Value.agg cs).cells.toList.drop 1).take 1 := by
      rw [List.take_of_length_le (show ((Value.agg cs).cells.toList.drop 1).length ≤ 1 by rw [List.length_drop]; omega), List.take_append_drop]
    rw [List.drop_zero] at ha
    rw [e, ha, hb]
    rfl
  have ec : cs = #[.int .i64 a, .int .i64 b] := by
    have e2 : cs.toList = [.int .i64 a, .int .i64 b] := e
    rw [← Array.toArray_toList (xs := cs), e2]
  simp only [Prod.mk.injEq] at hx
  refine ⟨a, b, by rw [ec], by rw [hx.1, hxa, hxb], by rw [hx.2, hxa, hxb]; rfl, fun W' base' spare' held' => ⟨2, ?_⟩⟩
  refine trod_struct2_mk (n := 1) (y0 := (.lit (.int .i64 a), [])) (y1 := (.lit (.int .i64 b), [])) Tryd.underlying49 (by rw [cellsOf49]; rfl) ?_ ?_
  · simp only [cellsOf3]
    exact trod_int_mk 0 Tryd.underlying3 hwa
  · simp only [cellsOf3]
    exact trod_int_mk 0 Tryd.underlying3 hwb
end Go.Proofs.YtgiihjcpgjpkcaaDoor.Q
