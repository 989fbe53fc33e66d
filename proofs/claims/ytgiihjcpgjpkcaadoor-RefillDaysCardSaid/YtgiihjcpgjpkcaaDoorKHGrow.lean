/- Contracts walked by hand and lemmas for them, as far as RefillDays needs them. -/
import Derived.Shelf.Spec.SlicesGrow
import Derived.Test.YtgiihjcpgjpkcaaDoorKQ0
namespace Go.Proofs.YtgiihjcpgjpkcaaDoor.Q
open Go.Shelf Go.RowKit Go.Proofs.YtgiihjcpgjpkcaaDoorW.PrintWords Go.Proofs.YtgiihjcpgjpkcaaDoorW.PrintLast Go.Proofs.YtgiihjcpgjpkcaaDoorW.PrintMore
set_option linter.unusedVariables false
set_option linter.unusedSimpArgs false
def growDay_ren : Ren := ⟨fun | 4 => 99 | n => n, fun | 22 => 23 | 25 => 51 | n => n, fun | n => n⟩
theorem growDay_lay : Lays8.n4 Tryd.prog growDay_ren := {
  mixed := by kernel_rfl
  f4 := ⟨Tryd.f99.name, by kernel_rfl, Tryd.func99.trans (congrArg some (by kernel_rfl))⟩
  t0 := Tryd.underlying0
  a0 := Tryd.isAgg0
  z0 := Tryd.sizeOf0
  v0 := Tryd.zeroValue0
  t3 := Tryd.underlying3
  a3 := Tryd.isAgg3
  z3 := Tryd.sizeOf3
  v3 := Tryd.zeroValue3
  t4 := Tryd.underlying4
  a4 := Tryd.isAgg4
  z4 := Tryd.sizeOf4
  v4 := Tryd.zeroValue4
  t9 := Tryd.underlying9
  a9 := Tryd.isAgg9
  z9 := Tryd.sizeOf9
  v9 := Tryd.zeroValue9
  t20 := Tryd.underlying20
  a20 := Tryd.isAgg20
  z20 := Tryd.sizeOf20
  v20 := Tryd.zeroValue20
  t22 := Tryd.underlying23
  a22 := Tryd.isAgg23
  z22 := Tryd.sizeOf23
  v22 := Tryd.zeroValue23 }
theorem zeros_size (c : Array Value) (n : Nat) : (Builtin.zeroCells c n).size = n * c.size := by
  simp [Builtin.zeroCells]
theorem R_room {α : Type} (k : Kd α) (e base g co : Nat) (cur : Array Value) (W : World) (hb : base ≤ g) (hh : W.heap[g]? = some (.cells cur e (0, 0))) (hc : co ≤ maxLen) (hs : cur.size = co * k.sz) :
    Kd.R k e W base (fun _ => True) (.slice (some ⟨g, 0, none⟩) 0 co) [] :=
  ⟨fun _ _ => trivial, [], ⟨by simp, .inr ⟨g, co, cur, rfl, hb, hh, Nat.zero_le _, hc, hs, by simp⟩⟩, Reps.none _ _⟩
def slices_GrowDay.f (l0 : List S51) (a1 : Int) : Option (List S51) := if l0 = [] ∧ 0 < a1 ∧ a1 ≤ 1000000 then some [] else none
theorem slices_GrowDay.calls (A0 : Option Addr) (c0 : Nat) (l0 : List S51) (a1 : Int) (r : List S51) (w : World) (hr0 : Kd.C k51 w A0 l0.length l0) (hc0 : c0 ≤ l0.length) (h : slices_GrowDay.f l0 a1 = some r) :
    Calls Tryd.prog 99 #[.slice A0 l0.length c0, .int .i64 a1] w fun e w' => ∃ v0_ : Value, e = .returned (v0_) ∧ Kd.R k51 51 w' w.heap.size (fun _ => True) v0_ r ∧ Below w.heap.size w w' := by
  unfold slices_GrowDay.f at h
  by_cases hc : l0 = [] ∧ 0 < a1 ∧ a1 ≤ 1000000
  · rw [if_pos hc] at h
    obtain rfl := Option.some.inj h
    obtain ⟨rfl, h1, h2⟩ := hc
    obtain ⟨n, rfl⟩ := Int.eq_ofNat_of_zero_le (show 0 ≤ a1 by omega)
    obtain rfl : c0 = 0 := Nat.le_zero.1 hc0
    obtain ⟨i0, hi, hzz⟩ := Option.map_eq_some_iff.1 info51
    simp only [Prod.mk.injEq] at hzz
    obtain ⟨hz0, hz1, hz2⟩ := hzz
    refine (Any8.slices_Grow_grow growDay_lay i0 _ hi hz0 (by rw [hz1]; decide) A0 0 0 n [] w (Nat.le_refl _) (by omega) (by rw [hz2]; omega) (by omega) (by simp) (fun _ => rfl) (fun a _ j v hj => by simp at hj)).mono fun e w' ⟨he, hw⟩ => ?_
    subst he; subst hw
    refine ⟨_, rfl, ?_, (below_drew1 (Below.refl _ w)).alloc (Nat.le_refl _) _⟩
    refine R_room k51 51 w.heap.size _ _ _ _ (Nat.le_refl _) (heap_alloc_new w.drew _) (grownCap_le_maxLen _ _ _ _ (by unfold maxLen; omega)) ?_
    have hg := grownCap_ge w (0 + n) 0 51
    have hsz : k51.sz = 4 := rfl
    have e1 : growDay_ren.t 25 = 51 := rfl
    simp only [Array.size_append, zeros_size, e1, hsz, List.size_toArray, List.length_nil]
    have e2 : (Value.agg #[(.int .i64 0), (.int .i64 0), (.int .i64 0), (.int .i64 0)]).cells.size = 4 := rfl
    rw [e2]
    omega
  · rw [if_neg hc] at h
    cases h
end Go.Proofs.YtgiihjcpgjpkcaaDoor.Q
