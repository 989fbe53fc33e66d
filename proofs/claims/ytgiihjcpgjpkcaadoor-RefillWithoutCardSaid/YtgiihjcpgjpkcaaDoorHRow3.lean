/- The arguments of the rows, opened: a list of numbers, each within what an int holds. -/
import Derived.Test.YtgiihjcpgjpkcaaDoorHRow2
namespace Go.Proofs.YtgiihjcpgjpkcaaDoor.Q
open Go.RowKit Go.ChangeShapes Go.WideShapes Go.ChangeAt Go.Deep Go.Proofs.YtgiihjcpgjpkcaaDoorW.PrintWords Go.Proofs.YtgiihjcpgjpkcaaDoorW.PrintLast Go.Proofs.YtgiihjcpgjpkcaaDoorW.PrintMore
set_option linter.unusedVariables false
theorem open_listw {H : Type} {enc : TypeId × Value → H} {W : World} {base : Nat} {spare : Nat → Bool} {held : Bool} {v : Value} {d : DataW H} {p : List MemPlace} (h : DataW.Trod enc Tryd.prog W base spare held 26 v d p) :
    ∃ A len cap, ∃ l : List Int, v.cells.toList = [.slice A len cap] ∧ len ≤ cap ∧ l.length = len ∧ Kd.C (Kd.int .i64) W A len l ∧ ∀ x ∈ l, -9223372036854775808 ≤ x ∧ x ≤ 9223372036854775807 := by
  obtain ⟨fuel, hf⟩ := h
  rcases open_slice1 Tryd.underlying26 cellsOf3 hf with ⟨hcs, _⟩ | ⟨a, len, cap, m, n, V, D, Pl, hcs, hb, hl, hm, hmm, hx, hi⟩
  · exact ⟨none, 0, 0, [], hcs, Nat.le_refl _, rfl, Kd.C_nil _ _, fun x hx => by cases hx⟩
  · have hlm : len ≤ m := by rw [hmm]; split <;> omega
    have hex : ∀ i, i < len → ∃ e : Int, W.cell? (a.add i) = some (.int .i64 e) ∧ -9223372036854775808 ≤ e ∧ e ≤ 9223372036854775807 := by
      intro i hil
      obtain ⟨hc, ht⟩ := hi i (by omega)
      obtain ⟨e, he, _, hw⟩ := DataW.trod_int Tryd.underlying3 ht
      rw [List.cons.injEq] at he
      exact ⟨e, by rw [hc, he.1], bounds_i64 hw⟩
    obtain ⟨f, hfx⟩ := choose_lt (α := Int) (p := fun i e => W.cell? (a.add i) = some (.int .i64 e) ∧ -9223372036854775808 ≤ e ∧ e ≤ 9223372036854775807) hex
    refine ⟨some a, len, cap, (List.range len).map f, hcs, hl, by simp, Kd.C_of_reads (d := (0 : Int)) (h1 := fun _ => rfl) ⟨by simp, Nat.le_trans hl hm, fun hn => ⟨a, rfl, fun j hj => ?_⟩⟩, fun x hx => ?_⟩
    · rw [(hfx j hj).1, List.getD_eq_getElem?_getD, List.getElem?_map, List.getElem?_range hj]
      rfl
    · obtain ⟨j, hj, rfl⟩ := List.mem_map.1 hx
      exact (hfx j (List.mem_range.1 hj)).2
end Go.Proofs.YtgiihjcpgjpkcaaDoor.Q
