/- The arguments of the rows, opened: a day; the table of powers of ten and the three variables of the library out of what the row lists and the world's shape. -/
import Derived.WalkKit
import Derived.ProofKit
import Derived.OpenShut
import Derived.ChangeOld
import Derived.Below
import Derived.SizedLaws
import Derived.Deep.Slices
import Derived.Deep.Fields
import Derived.ChangeSame
import Derived.Carry
import Derived.Deep.DeepHandedRow
import Derived.Lib.LaidTab
import Derived.LaidSub
import Derived.LaidLaws
import Derived.Lay
import Derived.LaidMore
import Derived.Test.YtgiihjcpgjpkcaaGreatDoorRows
import Derived.Test.YtgiihjcpgjpkcaaGreatDoorHStr
import Derived.Test.YtgiihjcpgjpkcaaGreatDoorHDelete
namespace Go.Proofs.YtgiihjcpgjpkcaaGreatDoor.Q
open Go.RowKit Go.ChangeShapes Go.WideShapes Go.ChangeAt Go.Deep Go.Proofs.YtgiihjcpgjpkcaaGreatDoorW.PrintWords Go.Proofs.YtgiihjcpgjpkcaaGreatDoorW.PrintLast Go.Proofs.YtgiihjcpgjpkcaaGreatDoorW.PrintMore
set_option linter.unusedVariables false

theorem laidOut : laidOutB Tryz.prog = true := by kernel_rfl
theorem cellsOf37 : Tryz.prog.cellsOf 37 = 4 := by kernel_rfl
theorem cellsOf35 : Tryz.prog.cellsOf 35 = 2 := by kernel_rfl
theorem cellsOf3 : Tryz.prog.cellsOf 3 = 1 := by kernel_rfl
section
variable {H : Type} {enc : TypeId × Value → H} {W : World} {base : Nat} {spare : Nat → Bool} {held : Bool}
theorem open_pair {fuel : Nat} {cs : List Value} {x : DataW H × List MemPlace} (h : DataW.trod enc Tryz.prog W base spare held fuel 35 cs = some x) : ∃ a b : Int, cs = [.int .i64 a, .int .i64 b] := by
  obtain ⟨y0, y1, n, _, hl, h0, h1⟩ := trod_struct2 Tryz.underlying35 h
  rw [cellsOf35] at hl
  obtain ⟨a, ha, _⟩ := DataW.trod_int Tryz.underlying3 h0
  obtain ⟨b, hb, _⟩ := DataW.trod_int Tryz.underlying3 h1
  simp only [cellsOf3] at ha hb
  clear h h0 h1
  have e : cs = cs.take 1 ++ (cs.drop 1).take 1 := by
    rw [List.take_of_length_le (show (cs.drop 1).length ≤ 1 by rw [List.length_drop]; omega), List.take_append_drop]
  rw [List.drop_zero] at ha
  exact ⟨a, b, by rw [e, ha, hb]; rfl⟩
theorem open_event {fuel : Nat} {cs : List Value} {x : DataW H × List MemPlace} (h : DataW.trod enc Tryz.prog W base spare held fuel 37 cs = some x) : ∃ e : S37, cs = cells37 e := by
  obtain ⟨y0, y1, n, _, hl, h0, h1⟩ := trod_struct2 Tryz.underlying37 h
  rw [cellsOf37] at hl
  obtain ⟨a, b, hab⟩ := open_pair h0
  obtain ⟨c, d, hcd⟩ := open_pair h1
  simp only [cellsOf35] at hab hcd
  clear h h0 h1
  have e : cs = cs.take 2 ++ (cs.drop 2).take 2 := by
    rw [List.take_of_length_le (show (cs.drop 2).length ≤ 2 by rw [List.length_drop]; omega), List.take_append_drop]
  rw [List.drop_zero] at hab
  exact ⟨⟨⟨a, b⟩, ⟨c, d⟩⟩, by rw [e, hab, hcd]; rfl⟩
theorem open_day {v : Value} {d : DataW H} {p : List MemPlace} (h : DataW.Trod enc Tryz.prog W base spare held 23 v d p) :
    ∃ A len cap, ∃ l : List S37, v.cells.toList = [.slice A len cap] ∧ len ≤ cap ∧ l.length = len ∧ Kd.C k37 W A len l := by
  obtain ⟨fuel, hf⟩ := h
  rcases open_slice Tryz.underlying23 hf with ⟨hcs, _⟩ | ⟨a, len, cap, m, n, D, Pl, hcs, hb, hl, hm, hmm, hx, hi⟩
  · exact ⟨none, 0, 0, [], hcs, Nat.le_refl _, rfl, Kd.C_nil _ _⟩
  · have hlm : len ≤ m := by rw [hmm]; split <;> omega
    have hex : ∀ i, i < len → ∃ e : S37, ∀ j u, (cells37 e)[j]? = some u → W.cell? (a.add (i * 4 + j)) = some u := by
      intro i hil
      obtain ⟨cs', hc, ht⟩ := hi i (by omega)
      obtain ⟨e, rfl⟩ := open_event ht
      obtain ⟨_, hcl, hat⟩ := World.cells?_some hc
      refine ⟨e, fun j u hu => ?_⟩
      have hj : j < 4 := by have := (List.getElem?_eq_some_iff.1 hu).1; simpa [cells37] using this
      have := hat j (by rw [cellsOf37]; exact hj)
      rw [cellsOf37] at this
      rw [← Go.Deep.add_add, this, hu]
    haveI : Inhabited S37 := ⟨z37⟩
    obtain ⟨f, hfx⟩ := choose_lt (α := S37) (p := fun i e => ∀ j u, (cells37 e)[j]? = some u → W.cell? (a.add (i * 4 + j)) = some u) hex
    refine ⟨some a, len, cap, (List.range len).map f, hcs, hl, by simp, by simp, Nat.le_trans hl hm, fun hn => ⟨a, rfl, fun j e hj => ?_⟩⟩
    rw [List.getElem?_map] at hj
    obtain ⟨q, hq, rfl⟩ := Option.map_eq_some_iff.1 hj
    obtain ⟨hql, rfl⟩ := List.getElem?_eq_some_iff.1 hq
    simp only [List.length_range] at hql
    simp only [List.getElem_range]
    exact ⟨cells37 (f j), rfl, k37_mk W _, hfx j hql⟩
end

/-! ### the listed variables -/
theorem gTab : Tryz.prog.globalNamed "internal/strconv.uint64pow10" = some 1 := by kernel_rfl
theorem gTabType : (Tryz.prog.globals[1]?).map (·.type) = some 133 := by kernel_rfl
theorem cellsOf133 : Tryz.prog.cellsOf 133 = 20 := by kernel_rfl
theorem cellsOf115 : Tryz.prog.cellsOf 115 = 1 := by kernel_rfl
theorem laid_err {W : World} {name : String} {g : Nat} {ms : Array (String × TypeId)} {nm : String} {d : DataW Unit} (hg : Tryz.prog.globalNamed name = some g) (ht : (Tryz.prog.globals[g]?).map (·.type) = some 99) (hi : Tryz.prog.underlying 99 = some (.interface ms))
    (h : laidMet Tryz.prog [(name, .iface nm d)] W) : ErrAt W g := by
  obtain ⟨ps, ⟨g', t', cs, fuel, p, q, hg', ht', hvar, hd, _, _⟩, _⟩ := h
  obtain rfl := Option.some.inj (hg.symm.trans hg')
  obtain rfl := Option.some.inj (ht.symm.trans ht')
  obtain ⟨f', u, v, hcs, _, _⟩ := iface_of_trod hi hd
  have h0 := World.var?_cell hg hvar 0
  have e : cs[0]? = some (.iface u v) := by
    rw [← Array.getElem?_toList, hcs]
    rfl
  exact ⟨_, h0.trans e, .inr ⟨u, v, rfl⟩⟩
theorem table {W : World} (h : laidMetH Tryz.prog Rows.refillTextsRow.laid W) (hs : W.ShapedOpen Tryz.prog) : TabB W := by
  refine ⟨?_, ?_, ?_, ?_⟩
  · have h1 := laidMetH.filter (fun x => x.1 == "internal/strconv.uint64pow10") h
    have e : Rows.refillTextsRow.laid.filter (fun x => x.1 == "internal/strconv.uint64pow10") = [("internal/strconv.uint64pow10", Lib.tabData .u64 Lib.pow10Tab)] := by kernel_rfl
    rw [e] at h1
    exact Lib.tabBelow_of_tabIs (Lib.tabIs_of_head (rest := []) gTab gTabType Tryz.underlying133 Tryz.underlying115 cellsOf115 cellsOf133 h1)
  · exact Go.Proofs.cell_of_shapedOpen_int (zero := #[.int .i64 0]) (t := 3) hs (of_decide_eq_true (by kernel_rfl)) (by kernel_rfl) rfl (by kernel_rfl) (by kernel_rfl) Tryz.underlying3
  · have h1 := laidMetH.filter (fun x => x.1 == "strconv.ErrSyntax") h
    have e : Rows.refillTextsRow.laid.filter (fun x => x.1 == "strconv.ErrSyntax") = [("strconv.ErrSyntax", Rows.laid_strconv_ErrSyntax)] := by kernel_rfl
    rw [e] at h1
    exact laid_err (by kernel_rfl) (by kernel_rfl) Tryz.underlying99 h1
  · have h1 := laidMetH.filter (fun x => x.1 == "strconv.ErrRange") h
    have e : Rows.refillTextsRow.laid.filter (fun x => x.1 == "strconv.ErrRange") = [("strconv.ErrRange", Rows.laid_strconv_ErrRange)] := by kernel_rfl
    rw [e] at h1
    exact laid_err (by kernel_rfl) (by kernel_rfl) Tryz.underlying99 h1
end Go.Proofs.YtgiihjcpgjpkcaaGreatDoor.Q
