/- The contract of spanOf: a span out of a text, and whether it is one. -/
import Derived.Lib.AtoiAllCases
import Derived.Test.YtgiihjcpgjpkcaaGreatDoorHLib
namespace Go.Proofs.YtgiihjcpgjpkcaaGreatDoor.Q
open Go.RowKit Go.Proofs.YtgiihjcpgjpkcaaGreatDoorW.PrintWords Go.Proofs.YtgiihjcpgjpkcaaGreatDoorW.PrintLast Go.Proofs.YtgiihjcpgjpkcaaGreatDoorW.PrintMore
set_option linter.unusedVariables false
set_option linter.unusedSimpArgs false

/-- The number that Atoi tells, and whether it tells no error. -/
def atoiV (l : List UInt8) : Int := match Lib.atoiAll l with
  | .ok v => v
  | .range => Lib.atoiSat l
  | _ => 0
def atoiOk (l : List UInt8) : Bool := match Lib.atoiAll l with
  | .ok _ => true
  | _ => false
def spanV (l : List UInt8) : Int × Int × Bool := (atoiV (Lib.cut l [45]).1, atoiV (Lib.cut l [45]).2.1, atoiOk (Lib.cut l [45]).1 && atoiOk (Lib.cut l [45]).2.1)
def refill_spanOf.f (a0 : ByteArray) : Option (Int × Int × Bool) := if a0.size < 4294967281 then some (spanV a0.data.toList) else none

/-- An error, or none. -/
def ErrV (ok : Bool) (v : Value) : Prop := (ok = true → v = .nilIface) ∧ (ok = false → ∃ t p, v = .iface t p)
theorem strconv_Atoi.calls (s : ByteArray) (w : World) (hs : s.size < 4294967281) (ht : TabB w) :
    Calls Tryz.prog 63 #[.string s] w fun e w' => ∃ ev, e = .returned (.tuple #[.int .i64 (atoiV s.data.toList), ev]) ∧ ErrV (atoiOk s.data.toList) ev ∧ Below w.heap.size w w' := by
  obtain ⟨_, _, ⟨e2, h2, h2'⟩, ⟨e3, h3, h3'⟩⟩ := ht
  unfold atoiV atoiOk
  cases h : Lib.atoiAll s.data.toList with
  | ok v =>
    refine (Tryz.strconv_Atoi_ok s (by omega) v h w).mono ?_
    rintro e w' ⟨rfl, hW⟩
    refine ⟨_, rfl, ⟨(fun _ => rfl), (fun h => by cases h)⟩, ?_⟩
    rcases hW with rfl | ⟨t, rfl⟩
    · exact Below.refl _ _
    · exact Lib.bytesWorld_below _ _ _
  | range =>
    refine (Tryz.strconv_Atoi_range s (by omega) h e3 w h3 h3').mono ?_
    rintro e w' ⟨N, rfl, _, _, hb⟩
    exact ⟨_, rfl, ⟨(fun h => by cases h), fun _ => ⟨_, _, rfl⟩⟩, hb⟩
  | _ =>
    refine (Tryz.strconv_Atoi_syntax s (by omega) h e2 w h2 h2').mono ?_
    rintro e w' ⟨N, rfl, _, _, hb⟩
    exact ⟨_, rfl, ⟨(fun h => by cases h), fun _ => ⟨_, _, rfl⟩⟩, hb⟩
theorem cut_le (s sep : List UInt8) : (Lib.cut s sep).1.length ≤ s.length ∧ (Lib.cut s sep).2.1.length ≤ s.length := by
  unfold Lib.cut
  split
  · simp
    omega
  · simp
set_option maxHeartbeats 4000000 in
set_option maxRecDepth 100000 in
theorem refill_spanOf.calls (a0 : ByteArray) (r1 r2 : Int) (r3 : Bool) (w : World) (ht : TabB w) (h : refill_spanOf.f a0 = some (r1, r2, r3)) :
    Calls Tryz.prog 34 #[.string a0] w fun e w' => e = .returned (.tuple #[.agg #[.int .i64 r1, .int .i64 r2], .bool r3]) ∧ Below w.heap.size w w' := by
  unfold refill_spanOf.f at h
  by_cases hs : a0.size < 4294967281
  · rw [if_pos hs] at h
    simp only [Option.some.injEq, spanV, Prod.mk.injEq] at h
    obtain ⟨rfl, rfl, rfl⟩ := h
    have hl : a0.data.toList.length = a0.size := by simp
    have hc := cut_le a0.data.toList [45]
    have hcut : strings_Cut.f a0 (⟨#[45]⟩ : ByteArray) = some (⟨(Lib.cut a0.data.toList [45]).1.toArray⟩, ⟨(Lib.cut a0.data.toList [45]).2.1.toArray⟩, (Lib.cut a0.data.toList [45]).2.2) := by
      unfold strings_Cut.f
      rw [if_pos hs]
    generalize (Lib.cut a0.data.toList [45]).1 = A at hcut hc ⊢
    generalize (Lib.cut a0.data.toList [45]).2.1 = B at hcut hc ⊢
    generalize (Lib.cut a0.data.toList [45]).2.2 = C at hcut ⊢
    have hA : (⟨A.toArray⟩ : ByteArray).size < 4294967281 := by
      show A.toArray.size < _
      simp
      omega
    have hB : (⟨B.toArray⟩ : ByteArray).size < 4294967281 := by
      show B.toArray.size < _
      simp
      omega
    have eA : (⟨A.toArray⟩ : ByteArray).data.toList = A := by simp
    have eB : (⟨B.toArray⟩ : ByteArray).data.toList = B := by simp
    have CA := a_ (show ∀ W, TabB W → Calls Tryz.prog 63 #[.string ⟨A.toArray⟩] W fun e w' => ∃ ev, e = .returned (.tuple #[.int .i64 (atoiV A), ev]) ∧ ErrV (atoiOk A) ev ∧ Below W.heap.size W w' from fun W h => by
      have := strconv_Atoi.calls ⟨A.toArray⟩ W hA h
      rwa [eA] at this)
    have CB := a_ (show ∀ W, TabB W → Calls Tryz.prog 63 #[.string ⟨B.toArray⟩] W fun e w' => ∃ ev, e = .returned (.tuple #[.int .i64 (atoiV B), ev]) ∧ ErrV (atoiOk B) ev ∧ Below W.heap.size W w' from fun W h => by
      have := strconv_Atoi.calls ⟨B.toArray⟩ W hB h
      rwa [eB] at this)
    generalize atoiV A = a at CA ⊢
    generalize atoiV B = b at CB ⊢
    generalize atoiOk A = p at CA ⊢
    generalize atoiOk B = q at CB ⊢
    have HT := a_ ht
    have HCUT := a_ hcut
    clear ht hcut eA eB hc hl hs hA hB
    have hu35 := Tryz.underlying35
    go_enter Tryz.func34, Tryz.ntmps34
    go_wp2_with fail
    have HB0 : Below w.heap.size w (w.alloc (.cells #[.int .i64 0, .int .i64 0] 35)) := below_alloc (Below.refl _ _) _
    have HK0 : (w.alloc (.cells #[.int .i64 0, .int .i64 0] 35)).heap[w.heap.size]? = some (.cells #[.int .i64 0, .int .i64 0] 35 (0, 0)) := heap_alloc_new w _
    have HZ0 : w.heap.size < (w.alloc (.cells #[.int .i64 0, .int .i64 0] 35)).heap.size := by simp
    generalize w.alloc (.cells #[.int .i64 0, .int .i64 0] 35) = w0 at HB0 HK0 HZ0 ⊢
    have HB := a_ HB0
    have HK := a_ HK0
    have HZ := a_ HZ0
    clear HB0 HK0 HZ0
    refine (strings_Cut.calls _ _ _ _ _ _ (TabB.below HT.out HB.out) HCUT.out).mono ?_
    rintro e w1 ⟨rfl, hb⟩
    replace HK := a_ ((hb.block _ HZ.out).trans HK.out)
    replace HZ := a_ (Nat.lt_of_lt_of_le HZ.out hb.size)
    replace HB := a_ (HB.out.trans (hb.mono HB.out.size))
    clear hb
    go_wp2_with fail
    refine (CA.out _ (TabB.below HT.out HB.out)).mono ?_
    rintro e w2 ⟨e1, rfl, he1, hb⟩
    replace HK := a_ ((hb.block _ HZ.out).trans HK.out)
    replace HZ := a_ (Nat.lt_of_lt_of_le HZ.out hb.size)
    replace HB := a_ (HB.out.trans (hb.mono HB.out.size))
    clear hb
    have HE1 := a_ he1
    clear he1
    go_wp2_with fail
    refine (CB.out _ (TabB.below HT.out HB.out)).mono ?_
    rintro e w3 ⟨e2, rfl, he2, hb⟩
    replace HK := a_ ((hb.block _ HZ.out).trans HK.out)
    replace HZ := a_ (Nat.lt_of_lt_of_le HZ.out hb.size)
    replace HB := a_ (HB.out.trans (hb.mono HB.out.size))
    clear hb
    have HE2 := a_ he2
    clear he2
    go_wp2_with fail
    have hs0 : w3.cell? ⟨w.heap.size, 0, none⟩ = some (.int .i64 0) := (blk_cell HK.out 0).trans rfl
    have hs1 : w3.cell? ⟨w.heap.size, 1, none⟩ = some (.int .i64 0) := (blk_cell HK.out 1).trans rfl
    have hf0 := blk_frozen HK.out 0
    have hf1 := blk_frozen HK.out 1
    cases p
    · obtain ⟨t1, p1, rfl⟩ := HE1.out.2 rfl
      clear HE1
      go_region
      go_wp2
      refine bodyPost_ret (results_ct rfl _ _ w.heap.size 35 #[.int .i64 a, .int .i64 b] (0, 0) _ rfl (by refine blk_drew ?_; refine blk_put (cs := #[.int .i64 a, .int .i64 0]) ?_ 1 _ rfl; refine blk_put (cs := #[.int .i64 0, .int .i64 0]) ?_ 0 _ rfl; exact HK.out) Tryz.underlying35 rfl (by kernel_rfl)) rfl ?_
      exact ⟨by first | rfl | (simp <;> rfl), below_drew (below_set (below_set HB.out (Nat.le_refl _)) (Nat.le_refl _))⟩
    · obtain rfl := HE1.out.1 rfl
      clear HE1
      cases q
      · obtain ⟨t2, p2, rfl⟩ := HE2.out.2 rfl
        clear HE2
        go_region
        go_wp2
        refine bodyPost_ret (results_ct rfl _ _ w.heap.size 35 #[.int .i64 a, .int .i64 b] (0, 0) _ rfl (by refine blk_drew ?_; refine blk_put (cs := #[.int .i64 a, .int .i64 0]) ?_ 1 _ rfl; refine blk_put (cs := #[.int .i64 0, .int .i64 0]) ?_ 0 _ rfl; exact HK.out) Tryz.underlying35 rfl (by kernel_rfl)) rfl ?_
        exact ⟨by first | rfl | (simp <;> rfl), below_drew (below_set (below_set HB.out (Nat.le_refl _)) (Nat.le_refl _))⟩
      · obtain rfl := HE2.out.1 rfl
        clear HE2
        go_region
        go_wp2
        refine bodyPost_ret (results_ct rfl _ _ w.heap.size 35 #[.int .i64 a, .int .i64 b] (0, 0) _ rfl (by refine blk_drew ?_; refine blk_put (cs := #[.int .i64 a, .int .i64 0]) ?_ 1 _ rfl; refine blk_put (cs := #[.int .i64 0, .int .i64 0]) ?_ 0 _ rfl; exact HK.out) Tryz.underlying35 rfl (by kernel_rfl)) rfl ?_
        exact ⟨by first | rfl | (simp <;> rfl), below_drew (below_set (below_set HB.out (Nat.le_refl _)) (Nat.le_refl _))⟩
  · rw [if_neg hs] at h
    cases h
end Go.Proofs.YtgiihjcpgjpkcaaGreatDoor.Q
