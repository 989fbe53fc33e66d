/- Contracts walked by hand and lemmas for them, as far as RefillDays needs them. -/
import Derived.Lib.AppendIntMem
import Derived.Lib.ItoaLen
import Derived.Test.YtgiihjcpgjpkcaaDoorKShelf
import Derived.Test.YtgiihjcpgjpkcaaDoorKQ0
namespace Go.Proofs.YtgiihjcpgjpkcaaDoor.Q
open Go.RowKit Go.Proofs.YtgiihjcpgjpkcaaDoorW.PrintWords Go.Proofs.YtgiihjcpgjpkcaaDoorW.PrintLast Go.Proofs.YtgiihjcpgjpkcaaDoorW.PrintMore
set_option linter.unusedVariables false
def TabB (w : World) : Prop := Lib.TabBelow Tryd.prog w.heap.size w "internal/strconv.uint64pow10" .u64 Lib.pow10Tab
theorem TabB.below {w W : World} (h : TabB w) (hb : Below w.heap.size w W) : TabB W := fun w' hb' => h w' (hb.trans (hb'.mono hb.size))
theorem TabB.here {w : World} (h : TabB w) : Lib.TabIs Tryd.prog w "internal/strconv.uint64pow10" .u64 Lib.pow10Tab := h w (Below.refl _ _)
theorem TabB.of {w : World} (h : Lib.TabIs Tryd.prog w "internal/strconv.uint64pow10" .u64 Lib.pow10Tab) : TabB w := Lib.tabBelow_of_tabIs h
def strconv_Itoa.f (a0 : Int) : Option ByteArray := if -9223372036854775808 ≤ a0 ∧ a0 ≤ 9223372036854775807 then some ⟨(Lib.itoa a0).toArray⟩ else none
theorem strconv_Itoa.calls (a0 : Int) (r : ByteArray) (w : World) (ht : TabB w) (h : strconv_Itoa.f a0 = some r) :
    Calls Tryd.prog 100 #[.int .i64 a0] w fun e w' => e = .returned (.string r) ∧ Below w.heap.size w w' := by
  unfold strconv_Itoa.f at h
  by_cases hb : -9223372036854775808 ≤ a0 ∧ a0 ≤ 9223372036854775807
  · rw [if_pos hb] at h
    obtain rfl := Option.some.inj h
    refine (Tryd.strconv_Itoa a0 hb.1 hb.2 w ht.here).mono ?_
    rintro e w' ⟨rfl, k, os, rfl⟩
    refine ⟨rfl, ?_⟩
    exact Lib.below_grow _ _ (Nat.le_refl _) _ _
  · rw [if_neg hb] at h
    cases h
theorem R_spot {α : Type} {d : Kd α} {e base n c : Nat} {ok : Nat → Prop} {W : World} {A : Option Addr} {xs : List α} (h : Kd.R d e W base ok (.slice A n c) xs) : ∀ ad, A = some ad → ad.spot = none := by
  intro ad ha
  subst ha
  obtain ⟨_, inner, ⟨_, ho⟩, _⟩ := h
  rcases ho with ⟨hv, _⟩ | ⟨g, cap, cur, hv, _⟩
  · cases hv
  · injection hv with h1
    injection h1 with h1
    rw [h1]
def strings_Join.f (l0 : List ByteArray) (a1 : ByteArray) : Option ByteArray :=
  if l0.length ≤ 1000 ∧ (Lib.join (l0.map (·.data.toList)) a1.data.toList).length ≤ 140737488355328 then some ⟨(Lib.join (l0.map (·.data.toList)) a1.data.toList).toArray⟩ else none
theorem strings_Join.calls (A0 : Option Addr) (c0 : Nat) (l0 : List ByteArray) (a1 : ByteArray) (r : ByteArray) (w : World) (hr0 : Kd.C Kd.string w A0 l0.length l0) (hc0 : l0.length ≤ c0) (hs0 : ∀ ad, A0 = some ad → ad.spot = none) (h : strings_Join.f l0 a1 = some r) :
    Calls Tryd.prog 93 #[.slice A0 l0.length c0, .string a1] w fun e w' => e = .returned (.string r) ∧ Below w.heap.size w w' := by
  unfold strings_Join.f at h
  by_cases hb : l0.length ≤ 1000 ∧ (Lib.join (l0.map (·.data.toList)) a1.data.toList).length ≤ 140737488355328
  · rw [if_pos hb] at h
    obtain rfl := Option.some.inj h
    by_cases h0 : l0.length = 0
    · obtain rfl := List.eq_nil_of_length_eq_zero h0
      refine (Tryd.strings_Join_none A0 c0 a1 w).mono ?_
      rintro e w' ⟨rfl, rfl⟩
      exact ⟨rfl, Below.refl _ _⟩
    · obtain ⟨ad, rfl, hc⟩ := Kd.at_string hr0 0 (by omega) (by omega)
      have hcells : ∀ (j : Nat) x, l0[j]? = some x → w.cell? (ad.add j) = some (.string x) := by
        intro j x hj
        have hl := (List.getElem?_eq_some_iff.1 hj).1
        obtain ⟨ad', e, hc⟩ := Kd.at_string hr0 (j : Int) (by omega) (by omega)
        injection e with e
        subst e
        rw [Int.toNat_natCast] at hc
        rw [hc]
        unfold rdOf
        rw [Int.toNat_natCast, List.getD_eq_getElem?_getD, hj]
        rfl
      have hbk := World.block_lt_of_cell? _ _ hc
      obtain ⟨b, o, s⟩ := ad
      obtain rfl : s = none := hs0 _ rfl
      refine Tryd.strings_Join b o c0 l0 a1 w (fun j x hj => ?_) hbk (by omega) hc0 hb.2
      rw [← hcells j x hj]
      simp only [Addr.add]
      split
      · rename_i h; subst h; rfl
      · rfl
  · rw [if_neg hb] at h
    cases h
end Go.Proofs.YtgiihjcpgjpkcaaDoor.Q
