/- Contracts walked by hand and lemmas for them, as far as RefillDays needs them. -/
import Derived.WalkKit
import Derived.ProofKit
import Derived.OpenShut
import Derived.ChangeOld
import Derived.Below
import Derived.SizedLaws
import Derived.Deep.Slices
import Derived.Deep.Fields
import Derived.ChangeSame
import Derived.Carry
import Derived.Deep.DeepHandedRow
import Derived.Lib.LaidTab
import Derived.LaidSub
import Derived.Test.YtgiihjcpgjpkcaaDoorRows
import Derived.Test.YtgiihjcpgjpkcaaDoorKHStr
import Derived.Test.YtgiihjcpgjpkcaaDoorKHDelete
namespace Go.Proofs.YtgiihjcpgjpkcaaDoor.Q
open Go.RowKit Go.ChangeShapes Go.WideShapes Go.ChangeAt Go.Deep Go.Proofs.YtgiihjcpgjpkcaaDoorW.PrintWords Go.Proofs.YtgiihjcpgjpkcaaDoorW.PrintLast Go.Proofs.YtgiihjcpgjpkcaaDoorW.PrintMore
set_option linter.unusedVariables false
theorem laidOut : laidOutB Tryd.prog = true := by kernel_rfl
theorem cellsOf51 : Tryd.prog.cellsOf 51 = 4 := by kernel_rfl
theorem cellsOf49 : Tryd.prog.cellsOf 49 = 2 := by kernel_rfl
theorem cellsOf3 : Tryd.prog.cellsOf 3 = 1 := by kernel_rfl
section
variable {H : Type} {enc : TypeId × Value → H} {W : World} {base : Nat} {spare : Nat → Bool} {held : Bool}
theorem open_pair {fuel : Nat} {cs : List Value} {x : DataW H × List MemPlace} (h : DataW.trod enc Tryd.prog W base spare held fuel 49 cs = some x) : ∃ a b : Int, cs = [.int .i64 a, .int .i64 b] := by
  obtain ⟨y0, y1, n, _, hl, h0, h1⟩ := trod_struct2 Tryd.underlying49 h
  rw [cellsOf49] at hl
  obtain ⟨a, ha, _⟩ := DataW.trod_int Tryd.underlying3 h0
  obtain ⟨b, hb, _⟩ := DataW.trod_int Tryd.underlying3 h1
  simp only [cellsOf3] at ha hb
  clear h h0 h1
  have e : cs = cs.take 1 ++ (cs.drop 1).take 1 := by
    rw [List.take_of_length_le (show (cs.drop 1).length ≤ 1 by rw [List.length_drop]; omega), List.take_append_drop]
  rw [List.drop_zero] at ha
  exact ⟨a, b, by rw [e, ha, hb]; rfl⟩
theorem open_event {fuel : Nat} {cs : List Value} {x : DataW H × List MemPlace} (h : DataW.trod enc Tryd.prog W base spare held fuel 51 cs = some x) : ∃ e : S51, cs = cells51 e := by
  obtain ⟨y0, y1, n, _, hl, h0, h1⟩ := trod_struct2 Tryd.underlying51 h
  rw [cellsOf51] at hl
  obtain ⟨a, b, hab⟩ := open_pair h0
  obtain ⟨c, d, hcd⟩ := open_pair h1
  simp only [cellsOf49] at hab hcd
  clear h h0 h1
  have e : cs = cs.take 2 ++ (cs.drop 2).take 2 := by
    rw [List.take_of_length_le (show (cs.drop 2).length ≤ 2 by rw [List.length_drop]; omega), List.take_append_drop]
  rw [List.drop_zero] at hab
  exact ⟨⟨⟨a, b⟩, ⟨c, d⟩⟩, by rw [e, hab, hcd]; rfl⟩
theorem open_day {v : Value} {d : DataW H} {p : List MemPlace} (h : DataW.Trod enc Tryd.prog W base spare held 23 v d p) :
    ∃ A len cap, ∃ l : List S51, v.cells.toList = [.slice A len cap] ∧ len ≤ cap ∧ l.length = len ∧ Kd.C k51 W A len l := by
  obtain ⟨fuel, hf⟩ := h
  rcases open_slice Tryd.underlying23 hf with ⟨hcs, _⟩ | ⟨a, len, cap, m, n, D, Pl, hcs, hb, hl, hm, hmm, hx, hi⟩
  · exact ⟨none, 0, 0, [], hcs, Nat.le_refl _, rfl, Kd.C_nil _ _⟩
  · have hlm : len ≤ m := by rw [hmm]; split <;> omega
    have hex : ∀ i, i < len → ∃ e : S51, ∀ j u, (cells51 e)[j]? = some u → W.cell? (a.add (i * 4 + j)) = some u := by
      intro i hil
      obtain ⟨cs', hc, ht⟩ := hi i (by omega)
      obtain ⟨e, rfl⟩ := open_event ht
      obtain ⟨_, hcl, hat⟩ := World.cells?_some hc
      refine ⟨e, fun j u hu => ?_⟩
      have hj : j < 4 := by have := (List.getElem?_eq_some_iff.1 hu).1; simpa [cells51] using this
      have := hat j (by rw [cellsOf51]; exact hj)
      rw [cellsOf51] at this
      rw [← Go.Deep.add_add, this, hu]
    haveI : Inhabited S51 := ⟨z51⟩
    obtain ⟨f, hfx⟩ := choose_lt (α := S51) (p := fun i e => ∀ j u, (cells51 e)[j]? = some u → W.cell? (a.add (i * 4 + j)) = some u) hex
    refine ⟨some a, len, cap, (List.range len).map f, hcs, hl, by simp, by simp, Nat.le_trans hl hm, fun hn => ⟨a, rfl, fun j e hj => ?_⟩⟩
    rw [List.getElem?_map] at hj
    obtain ⟨q, hq, rfl⟩ := Option.map_eq_some_iff.1 hj
    obtain ⟨hql, rfl⟩ := List.getElem?_eq_some_iff.1 hq
    simp only [List.length_range] at hql
    simp only [List.getElem_range]
    exact ⟨cells51 (f j), rfl, k51_mk W _, hfx j hql⟩
end
theorem gTab : Tryd.prog.globalNamed "internal/strconv.uint64pow10" = some 1 := by kernel_rfl
theorem gTabType : (Tryd.prog.globals[1]?).map (·.type) = some 135 := by kernel_rfl
theorem cellsOf135 : Tryd.prog.cellsOf 135 = 20 := by kernel_rfl
theorem cellsOf128 : Tryd.prog.cellsOf 128 = 1 := by kernel_rfl
def rowsLaid : List (String × DataW Unit) := [("math/bits.deBruijn32tab", Rows.laid_math_bits_deBruijn32tab), ("math/bits.deBruijn64tab", Rows.laid_math_bits_deBruijn64tab), ("internal/strconv.uint64pow10", Rows.laid_internal_strconv_uint64pow10)]
theorem table {W : World} (h : laidMetH Tryd.prog rowsLaid W) : TabB W := by
  have h1 := laidMetH.filter (fun x => x.1 == "internal/strconv.uint64pow10") h
  have e : rowsLaid.filter (fun x => x.1 == "internal/strconv.uint64pow10") = [("internal/strconv.uint64pow10", Lib.tabData .u64 Lib.pow10Tab)] := by kernel_rfl
  rw [e] at h1
  exact TabB.of (Lib.tabIs_of_head (rest := []) gTab gTabType Tryd.underlying135 Tryd.underlying128 cellsOf128 cellsOf135 h1)
def valsOf : DataW Unit → Array Value
  | .agg l => (l.map fun
      | .lit (.int k n) => Value.int k n
      | _ => undef).toArray
  | _ => #[]
def putVals (v : Array Value) : Obj → Obj
  | .cells _ t frozen => .cells v t frozen
  | o => o
noncomputable def laidWorld (os : Os) : World :=
  { World.holding Tryd.prog os ⟨#[], #[], []⟩ with heap := (((World.holding Tryd.prog os ⟨#[], #[], []⟩).heap.modify 1 (putVals (valsOf Rows.laid_internal_strconv_uint64pow10))).modify 2 (putVals (valsOf Rows.laid_math_bits_deBruijn32tab))).modify 3 (putVals (valsOf Rows.laid_math_bits_deBruijn64tab)) }
end Go.Proofs.YtgiihjcpgjpkcaaDoor.Q
