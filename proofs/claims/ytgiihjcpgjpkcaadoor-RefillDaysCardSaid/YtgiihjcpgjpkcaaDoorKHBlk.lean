/- Contracts walked by hand and lemmas for them, as far as RefillDays needs them. -/
import Derived.Test.YtgiihjcpgjpkcaaDoorKHBase
import Derived.RangeFuncBox
import Derived.Laws.EntriesVeiled
import Derived.Stop.RegionWithIn
import Derived.BigRegionIn
namespace Go.Proofs.YtgiihjcpgjpkcaaDoor.Q
open Go.RowKit Go.Shelf Go.Proofs.YtgiihjcpgjpkcaaDoorW.PrintWords Go.Proofs.YtgiihjcpgjpkcaaDoorW.PrintLast Go.Proofs.YtgiihjcpgjpkcaaDoorW.PrintMore
set_option linter.unusedVariables false
def Blk (W : World) (g : Nat) (t : TypeId) (cs : Array Value) : Prop := W.heap[g]? = some (.cells cs t (0, 0))
section
variable {w w' : World} {g : Nat} {t : TypeId} {cs : Array Value}
theorem Blk.lt (h : Blk w g t cs) : g < w.heap.size := by
  rcases Nat.lt_or_ge g w.heap.size with hlt | hge
  · exact hlt
  · unfold Blk at h; rw [Array.getElem?_eq_none hge] at h; cases h
theorem Blk.cell (h : Blk w g t cs) (i : Nat) : w.cell? ⟨g, i, none⟩ = cs[i]? := cell_of_row w g i cs t (0, 0) h
theorem Blk.frozen (h : Blk w g t cs) (i : Nat) : w.frozen? ⟨g, i, none⟩ = false := by
  unfold Blk at h
  simp [World.frozen?, h]
theorem Blk.new (w : World) (t : TypeId) (cs : Array Value) : Blk (w.alloc (.cells cs t)) w.heap.size t cs := heap_alloc_new w _
theorem Blk.drew (h : Blk w g t cs) : Blk w.drew g t cs := h
theorem Blk.alloc (h : Blk w g t cs) (o : Obj) : Blk (w.alloc o) g t cs := (Below.heap_alloc w o g h.lt).trans h
theorem Blk.set_ (h : Blk w g t cs) (i : Nat) (u : Value) : Blk (w.setCell ⟨g, i, none⟩ u) g t (cs.setIfInBounds i u) := by
  unfold Blk at h ⊢
  simp [World.setCell, Array.getElem?_modify, h]
theorem Blk.far (h : Blk w g t cs) {p : Addr} (hp : g ≠ p.block) (u : Value) : Blk (w.setCell p u) g t cs := (Below.heap_setCell w p u g hp).trans h
theorem Blk.below {B : Nat} (h : Blk w g t cs) (hb : Below B w w') (hg : g < B) : Blk w' g t cs := (hb.block g hg).trans h
theorem Blk.below' (h : Blk w g t cs) (hb : Below w.heap.size w w') : Blk w' g t cs := h.below hb h.lt
end
theorem blk_own {β : Type} (g : Nat) (t : TypeId) (f : β → Array Value) : Own (fun s W => Blk W g t (f s)) := fun s X Y row hs hg hrow =>
  (grownBy_keeps_cells hg hrow hs rfl).trans hs
theorem KeepsOthers.of_below {W W' : World} (h : Below W.heap.size W W') : KeepsOthers W W' := ⟨h.size, fun k o hk _ => (h.block k (Array.getElem?_eq_some_iff.1 hk).1).trans hk⟩
theorem KpB.setCell {n₁ B : Nat} {W : World} {p : Addr} (h1 : n₁ ≤ p.block) (h2 : p.block < B ∨ B + 2 ≤ p.block) (v : Value) : KpB n₁ B W (W.setCell p v) :=
  ⟨(Below.refl _ W).setCell h1 v, fun b hb hb' => Below.heap_setCell W p v b (by omega)⟩
theorem KpB.drew (n₁ B : Nat) (W : World) : KpB n₁ B W W.drew := ⟨below_drew (Below.refl _ _), fun _ _ _ => rfl⟩
theorem KpB.alloc {n₁ B : Nat} {W : World} (h1 : n₁ ≤ W.heap.size) (h2 : B + 2 ≤ W.heap.size) (o : Obj) : KpB n₁ B W (W.alloc o) := KpB.of_below ((Below.refl _ W).alloc (Nat.le_refl _) _) h1 h2
theorem ownFrom_kpB {β : Type} {n₁ B B' : Nat} {w₀ : World} (h0 : n₁ ≤ w₀.heap.size) (h1 : n₁ ≤ B') (h2 : B + 2 ≤ B') (h3 : B + 2 ≤ w₀.heap.size) : OwnFrom B' (fun (_ : β) W => KpB n₁ B w₀ W) := fun s W W' row hs hg hr =>
  ⟨ownFrom_below (β := β) (n₀ := n₁) (w₀ := w₀) h0 h1 s W W' row hs.below hg hr, fun b hb hb' => (hg.block b (Nat.lt_of_lt_of_le hb' (Nat.le_trans h3 hs.below.size)) (fun e => by have := (hr b e.symm).1; omega)).trans (hs.box b hb hb')⟩
end Go.Proofs.YtgiihjcpgjpkcaaDoor.Q
