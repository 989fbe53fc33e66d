/- The contracts of strings.Split, strings.Cut and strconv.Atoi in the printed contracts' words, out of the shelf's. -/
import Derived.Lib.SplitLaws
import Derived.Test.YtgiihjcpgjpkcaaGreatDoorHStr
namespace Go.Proofs.YtgiihjcpgjpkcaaGreatDoor.Q
open Go.RowKit Go.Proofs.YtgiihjcpgjpkcaaGreatDoorW.PrintWords Go.Proofs.YtgiihjcpgjpkcaaGreatDoorW.PrintLast Go.Proofs.YtgiihjcpgjpkcaaGreatDoorW.PrintMore
set_option linter.unusedVariables false

def strings_Cut.f (a0 a1 : ByteArray) : Option (ByteArray × ByteArray × Bool) :=
  if a0.size < 4294967281 then some (⟨(Lib.cut a0.data.toList a1.data.toList).1.toArray⟩, ⟨(Lib.cut a0.data.toList a1.data.toList).2.1.toArray⟩, (Lib.cut a0.data.toList a1.data.toList).2.2) else none
theorem strings_Cut.calls (a0 a1 : ByteArray) (r1 r2 : ByteArray) (r3 : Bool) (w : World) (ht : TabB w) (h : strings_Cut.f a0 a1 = some (r1, r2, r3)) :
    Calls Tryz.prog 33 #[.string a0, .string a1] w fun e w' => e = .returned (.tuple #[.string r1, .string r2, .bool r3]) ∧ Below w.heap.size w w' := by
  unfold strings_Cut.f at h
  by_cases hb : a0.size < 4294967281
  · rw [if_pos hb] at h
    simp only [Option.some.injEq, Prod.mk.injEq] at h
    obtain ⟨rfl, rfl, rfl⟩ := h
    obtain ⟨_, ⟨m, hm⟩, _⟩ := ht
    refine (Tryz.strings_Cut a0 a1 m w hb hm).mono ?_
    rintro e w' ⟨rfl, n, rfl⟩
    exact ⟨rfl, pw_below_drewN (Below.refl _ _) n⟩
  · rw [if_neg hb] at h
    cases h

def strings_Split.f (a0 a1 : ByteArray) : Option (List ByteArray) := if a0.size < 4294967281 ∧ 1 ≤ a1.size then some (Lib.splitB a1 0 (Lib.countB a0 a1) a0) else none
theorem strings_Split.calls (a0 a1 : ByteArray) (r : List ByteArray) (w : World) (ht : TabB w) (h : strings_Split.f a0 a1 = some r) :
    Calls Tryz.prog 32 #[.string a0, .string a1] w fun e w' => ∃ v0_ : Value, e = .returned (v0_) ∧ Kd.R Kd.string 9 w' w.heap.size (fun _ => True) v0_ r ∧ Below w.heap.size w w' := by
  unfold strings_Split.f at h
  by_cases hb : a0.size < 4294967281 ∧ 1 ≤ a1.size
  · rw [if_pos hb] at h
    obtain rfl := Option.some.inj h
    obtain ⟨_, ⟨m, hm⟩, _⟩ := ht
    refine (Tryz.strings_Split a0 a1 m w hb.1 hm hb.2).mono ?_
    rintro e w' ⟨rfl, rfl⟩
    refine ⟨_, rfl, ?_, below_alloc (Below.refl _ _) _⟩
    have hle := Lib.countB_le a1 hb.2 a0.size a0 (Nat.le_refl _)
    have hlen := Lib.splitB_all a1 hb.2 0 _ a0 rfl
    rw [← hlen]
    generalize Lib.splitB a1 0 (Lib.countB a0 a1) a0 = xs at hlen ⊢
    refine Kd.R_of_own (enc := Value.string) ?_ (fun k hk => trivial)
    have h2 := World.ownsRow_lit (base := w.heap.size) (e := 9) (size := 1) w (xs.map Value.string).toArray xs.length (Nat.le_refl _) (by unfold maxLen; omega) (by simp)
    simpa [encs] using h2
  · rw [if_neg hb] at h
    cases h
end Go.Proofs.YtgiihjcpgjpkcaaGreatDoor.Q
