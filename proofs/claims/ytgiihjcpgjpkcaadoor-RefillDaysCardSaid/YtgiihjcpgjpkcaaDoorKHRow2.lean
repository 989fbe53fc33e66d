/- Contracts walked by hand and lemmas for them, as far as RefillDays needs them. -/
import Derived.Test.YtgiihjcpgjpkcaaDoorKHRow
namespace Go.Proofs.YtgiihjcpgjpkcaaDoor.Q
open Go.RowKit Go.ChangeShapes Go.WideShapes Go.ChangeAt Go.Deep Go.Proofs.YtgiihjcpgjpkcaaDoorW.PrintWords Go.Proofs.YtgiihjcpgjpkcaaDoorW.PrintLast Go.Proofs.YtgiihjcpgjpkcaaDoorW.PrintMore
set_option linter.unusedVariables false
set_option maxRecDepth 100000 in
theorem open_span {H : Type} {enc : TypeId × Value → H} {W : World} {base base0 : Nat} {spare : Nat → Bool} {held : Bool} {v : Value} {d : DataW H} {p : List MemPlace} (hv : Value.okWide Tryd.prog W .any base0 49 v) (h : DataW.Trod enc Tryd.prog W base spare held 49 v d p) :
    ∃ a b : Int, v = .agg #[.int .i64 a, .int .i64 b] ∧ d = .agg [.lit (.int .i64 a), .lit (.int .i64 b)] ∧ p = [] ∧
      ∀ (W' : World) (base' : Nat) (spare' : Nat → Bool) (held' : Bool), DataW.Trod enc Tryd.prog W' base' spare' held' 49 (.agg #[.int .i64 a, .int .i64 b]) (.agg [.lit (.int .i64 a), .lit (.int .i64 b)]) [] := by
  simp only [Value.okWide, Tryd.underlying49] at hv
  obtain ⟨cs, rfl, hs, _⟩ := hv
  obtain ⟨fuel, hf⟩ := h
  obtain ⟨y0, y1, n, hx, hl, h0, h1⟩ := trod_struct2 Tryd.underlying49 hf
  rw [cellsOf49] at hl
  obtain ⟨a, ha, hxa, hwa⟩ := DataW.trod_int Tryd.underlying3 h0
  obtain ⟨b, hb, hxb, hwb⟩ := DataW.trod_int Tryd.underlying3 h1
  simp only [cellsOf3] at ha hb
  have e : (Value.agg cs).cells.toList = [.int .i64 a, .int .i64 b] := by
    have e : (Value.agg cs).cells.toList = (Value.agg cs).cells.toList.take 1 ++ ((Value.agg cs).cells.toList.drop 1).take 1 := by
      rw [List.take_of_length_le (show ((Value.agg cs).cells.toList.drop 1).length ≤ 1 by rw [List.length_drop]; omega), List.take_append_drop]
    rw [List.drop_zero] at ha
    rw [e, ha, hb]
    rfl
  have ec : cs = #[.int .i64 a, .int .i64 b] := by
    have e2 : cs.toList = [.int .i64 a, .int .i64 b] := e
    rw [← Array.toArray_toList (xs := cs), e2]
  simp only [Prod.mk.injEq] at hx
  refine ⟨a, b, by rw [ec], by rw [hx.1, hxa, hxb], by rw [hx.2, hxa, hxb]; rfl, fun W' base' spare' held' => ⟨2, ?_⟩⟩
  refine trod_struct2_mk (n := 1) (y0 := (.lit (.int .i64 a), [])) (y1 := (.lit (.int .i64 b), [])) Tryd.underlying49 (by rw [cellsOf49]; rfl) ?_ ?_
  · simp only [cellsOf3]
    exact trod_int_mk 0 Tryd.underlying3 hwa
  · simp only [cellsOf3]
    exact trod_int_mk 0 Tryd.underlying3 hwb
end Go.Proofs.YtgiihjcpgjpkcaaDoor.Q
