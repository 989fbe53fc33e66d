/- Contracts walked by hand and lemmas for them, as far as RefillDays needs them. -/
import Derived.RangeFuncNested
import Derived.RangeFuncBound
import Derived.RangeFuncCalls
import Derived.RangeFuncLeaves
import Derived.Shelf.Abstract
import Derived.Shelf.RegionOpen
import Derived.WalkKit
import Derived.OwnWalkIn
import Derived.TacticsInMore
import Derived.LoopNIn
import Derived.LoopIn
import Derived.Lib.Hide
import Derived.Outline
import Derived.Test.YtgiihjcpgjpkcaaDoorKQA
namespace Go.Proofs.YtgiihjcpgjpkcaaDoor.Q
open Go.RowKit Go.Shelf Go.Proofs.YtgiihjcpgjpkcaaDoorW.PrintWords Go.Proofs.YtgiihjcpgjpkcaaDoorW.PrintLast Go.Proofs.YtgiihjcpgjpkcaaDoorW.PrintMore
set_option linter.unusedVariables false
set_option linter.unusedSimpArgs false
attribute [local go_sem] Oper.semAt_some
def atOf (d : List S51) (i : Int) : S49 := if i < 0 then ⟨0, 0⟩ else (rd_T51 d i).f1
def isK (d : List S51) (i : Int) : Bool := if i < 0 then true else (!((rd_T51 d i).f1.f0 == 1) || !((rd_T51 d i).f1.f1 == 0))
def idx (d : List S51) (back : Bool) (k : Nat) : Int := if back then (d.length : Int) - 1 - k else (k : Int) - 1
abbrev Ix (d : List S51) : Type := { j : Int // -1 ≤ j ∧ j < d.length ∧ isK d j = true }
def ixOf (d : List S51) (j : Int) : Option (Ix d) := if h : -1 ≤ j ∧ j < d.length ∧ isK d j = true then some ⟨j, h⟩ else none
def upK (d : List S51) (back : Bool) (k : Nat) : List (Ix d) := (List.range k).filterMap fun j => ixOf d (idx d back j)
theorem upK_yes {d : List S51} {back : Bool} {k : Nat} (h : -1 ≤ idx d back k ∧ idx d back k < d.length ∧ isK d (idx d back k) = true) : upK d back (k + 1) = upK d back k ++ [⟨idx d back k, h⟩] := by
  simp [upK, List.range_succ, List.filterMap_append, ixOf, h]
theorem upK_no {d : List S51} {back : Bool} {k : Nat} (h : isK d (idx d back k) = false) : upK d back (k + 1) = upK d back k := by
  simp [upK, List.range_succ, List.filterMap_append, ixOf, h]
theorem upK_length (d : List S51) (back : Bool) (k : Nat) : (upK d back k).length ≤ k := by
  have := List.length_filterMap_le (fun j => ixOf d (idx d back j)) (List.range k)
  simpa [upK] using this
theorem at_eq (d : List S51) (i : Int) (h : i < d.length) : refill_at.f d i = some ((atOf d i).f0, (atOf d i).f1, isK d i) := by
  unfold refill_at.f refill_unknown.f atOf isK
  by_cases h0 : i < 0
  · rw [if_pos h0, if_pos h0, if_pos h0]
  · rw [if_neg h0, if_pos (by omega), if_pos h, if_neg h0, if_neg h0]
    rfl
abbrev encK (d : List S51) (x : Ix d) : Array Value := #[.int .i64 x.1, .agg #[.int .i64 (atOf d x.1).f0, .int .i64 (atOf d x.1).f1]]
set_option maxRecDepth 100000 in
set_option maxHeartbeats 4000000 in
theorem known1_in (n : Nat) (hn : 1 ≤ n) (l Bs Bb : Nat) (A : Option Addr) (c : Nat) (d : List S51) (back : Bool) (hd : d.length ≤ 1000000) (hc : d.length ≤ c) (Kp : World → World → Prop) (J Jx : List (Ix d) → World → Prop)
    (hY : ∀ pre x W, J pre W → pre.length < d.length + 1 → YieldAt Fence.wide (n - 1) Tryd.prog l (encK d x) W fun e W' =>
      (e = .returned (.bool true) ∧ J (pre ++ [x]) W' ∧ Kp W W') ∨ (e = .returned (.bool false) ∧ Jx (pre ++ [x]) W'))
    (W : World) (kr : Kp W W) (kt : ∀ {X Y Z}, Kp X Y → Kp Y Z → Kp X Z) (kb : ∀ X Y, Kp W X → Below X.heap.size X Y → Kp X Y) (hJ' : AbidesFrom W.heap.size J)
    (hS : ∀ W', Kp W W' → W'.cell? ⟨Bs, 0, none⟩ = some (.slice A d.length c) ∧ W'.cell? ⟨Bb, 0, none⟩ = some (.bool back) ∧ Kd.C k51 W' A d.length d) (h0 : J [] W) :
    CallsIn Fence.wide n Tryd.prog 98 #[.func (.yield l) #[] #[], .pointer (some ⟨Bs, 0, none⟩), .pointer (some ⟨Bb, 0, none⟩)] W fun e W' => (∃ v, e = .returned v) ∧
      ((∃ ys, ys = upK d back (d.length + 1) ∧ J ys W') ∨ (∃ pre, (∃ k, k ≤ d.length + 1 ∧ pre = upK d back k) ∧ Jx pre W')) := by
  refine callsIn_of_wp Tryd.func98 rfl trivial ?_ rfl
  simp only [Tryd.ntmps98, List.size_toArray, List.length_cons, List.length_nil, Nat.reduceAdd, Nat.reduceSub, Array.replicate_succ, Array.replicate_zero, List.push_toArray, List.append_toArray, List.nil_append, List.cons_append]
  obtain ⟨cBs, cBb, _⟩ := hS W kr
  gi_wp2
  clear cBs cBb
  gi_loopw [11] (fun i wr => ∃ k : Nat, k ≤ d.length + 1 ∧ i = .int .i64 k ∧ J (upK d back k) wr ∧ Hid (Kp W wr))
    (fun i _ => d.length + 1 - (intOf i).toNat)
  case atStart => exact ⟨0, Nat.zero_le _, rfl, h0, kr⟩
  case round =>
    obtain ⟨k, hk, rfl, hJs, hnx⟩ := hrel
    obtain ⟨c1, c2, hR⟩ := hS wr hnx
    by_cases hlt : k < d.length + 1
    · have hi : idx d back k < d.length := by unfold idx; split <;> omega
      have hi0 : -1 ≤ idx d back k := by unfold idx; split <;> omega
      have hat := at_eq d _ hi
      have hyes := upK_yes (d := d) (back := back) (k := k)
      have hno := upK_no (d := d) (back := back) (k := k)
      have hlen := upK_length d back k
      have HJ : ∀ w1, Below wr.heap.size wr w1 → J (upK d back k) w1 := fun w1 hb => hJ' (upK d back k) wr w1 none hJs (grown_of_below hb none) (fun r e => by cases e)
      cases hK : isK d (idx d back k)
      · -- its minute is not known: the round goes on
        rw [hK] at hat
        have hno' := hno hK
        clear hyes hno hK
        cases back
        all_goals
          simp only [idx, Bool.false_eq_true, if_false, if_true] at hat hi hno'
          have HAT := Lib.hid hat
          have HNO := Lib.hid hno'
          clear hat hno'
          gi_wp2_with ((refine ⟨trivial, ?_⟩; gi_at_call 70; refine (callsIn_wide.2 (refill_at.calls A c d _ _ _ _ _ hR hc HAT.out)).mono ?_; rintro e w1 ⟨rfl, hb1⟩))
          refine ⟨fun _ h => (by cases h), ?_⟩
          gi_wp2
          go_roundw
          case rel => exact ⟨k + 1, by omega, by simp, by rw [HNO.out]; exact HJ _ (hb1.alloc hb1.size _), kt hnx (kb _ _ hnx (hb1.alloc hb1.size _))⟩
          case measure => simp [intOf]; omega
      · rw [hK] at hat
        obtain ⟨x, hx1, hyes'⟩ : ∃ x : Ix d, x.1 = idx d back k ∧ upK d back (k + 1) = upK d back k ++ [x] := ⟨⟨_, hi0, hi, hK⟩, rfl, hyes ⟨hi0, hi, hK⟩⟩
        have HY2 : ∀ w1, Below wr.heap.size wr w1 → YieldAt Fence.wide (n - 1) Tryd.prog l #[.int .i64 (idx d back k), .agg #[.int .i64 (atOf d (idx d back k)).f0, .int .i64 (atOf d (idx d back k)).f1]] (w1.alloc (.cells #[.int .i64 (atOf d (idx d back k)).f0, .int .i64 (atOf d (idx d back k)).f1] 49)) fun e W' =>
            (e = .returned (.bool true) ∧ J (upK d back k ++ [x]) W' ∧ Kp (w1.alloc (.cells #[.int .i64 (atOf d (idx d back k)).f0, .int .i64 (atOf d (idx d back k)).f1] 49)) W') ∨ (e = .returned (.bool false) ∧ Jx (upK d back k ++ [x]) W') := fun w1 hb => by
          have h := hY (upK d back k) x (w1.alloc (.cells #[.int .i64 (atOf d (idx d back k)).f0, .int .i64 (atOf d (idx d back k)).f1] 49)) (HJ _ (hb.alloc hb.size _)) (by omega)
          unfold encK at h
          rw [hx1] at h
          exact h
        clear hx1
        clear hyes hno hK
        cases back
        all_goals
          simp only [idx, Bool.false_eq_true, if_false, if_true] at hat hi hyes' HY2
          have HAT := Lib.hid hat
          have HYES := Lib.hid hyes'
          have HY3 := Lib.hid HY2
          clear hat hyes' HY2
          gi_wp2_with fail
          refine ⟨trivial, ?_⟩
          gi_at_call 70
          refine (callsIn_wide.2 (refill_at.calls A c d _ _ _ _ _ hR hc HAT.out)).mono ?_
          rintro e w1 ⟨rfl, hb1⟩
          obtain ⟨fn, tmps, assign, body, hy, hRR⟩ := HY3.out w1 hb1
          gi_wp2
          refine hRR.mono ?_
          rintro e W3 (⟨rfl, hJ3, hk3⟩ | ⟨rfl, hJx3⟩)
          · gi_wp2
            go_roundw
            case rel => exact ⟨k + 1, by omega, by simp, by rw [HYES.out]; exact hJ3, kt (kt hnx (kb _ _ hnx (hb1.alloc hb1.size _))) hk3⟩
            case measure => simp [intOf]; omega
          · gi_wp2
            refine bodyPost_ret (results_none rfl _ _ _) rfl ?_
            exact ⟨⟨_, rfl⟩, .inr ⟨_, ⟨k + 1, by omega, HYES.out.symm⟩, hJx3⟩⟩
    · obtain rfl : k = d.length + 1 := by omega
      gi_wp2
      go_end0
      exact ⟨⟨_, rfl⟩, .inl ⟨_, rfl, hJs⟩⟩
set_option maxHeartbeats 1000000 in
theorem known_in (n : Nat) (A : Option Addr) (len c : Nat) (back : Bool) (w : World) :
    CallsIn Fence.wide n Tryd.prog 74 #[.slice A len c, .bool back] w fun e w' => e = .returned (.func (.func 98) #[] #[.pointer (some ⟨w.heap.size, 0, none⟩), .pointer (some ⟨w.heap.size + 1, 0, none⟩)]) ∧ w' = (w.alloc (.cells #[.slice A len c] 23)).alloc (.cells #[.bool back] 4) := by
  refine callsIn_of_wp Tryd.func74 rfl trivial ?_ rfl
  simp only [Tryd.ntmps74, List.size_toArray, List.length_cons, List.length_nil, Nat.reduceAdd, Nat.reduceSub, Array.replicate_succ, Array.replicate_zero, List.push_toArray, List.append_toArray, List.nil_append, List.cons_append]
  gi_wp2
  go_ret
  exact ⟨rfl, rfl⟩
structure KpB (n₁ B : Nat) (W W' : World) : Prop where
  below : Below n₁ W W'
  box : ∀ b, B ≤ b → b < B + 2 → W'.heap[b]? = W.heap[b]?
theorem KpB.refl (n₁ B : Nat) (W : World) : KpB n₁ B W W := ⟨Below.refl _ _, fun _ _ _ => rfl⟩
theorem KpB.trans {n₁ B : Nat} {X Y Z : World} (h : KpB n₁ B X Y) (k : KpB n₁ B Y Z) : KpB n₁ B X Z := ⟨h.below.trans k.below, fun b h1 h2 => (k.box b h1 h2).trans (h.box b h1 h2)⟩
theorem KpB.of_below {n₁ B : Nat} {X Y : World} (h : Below X.heap.size X Y) (h1 : n₁ ≤ X.heap.size) (h2 : B + 2 ≤ X.heap.size) : KpB n₁ B X Y := ⟨h.mono h1, fun b _ hb => h.block b (by omega)⟩
theorem KpB.cell {n₁ B b : Nat} {X Y : World} (h : KpB n₁ B X Y) (h1 : B ≤ b) (h2 : b < B + 2) (o : Nat) : Y.cell? ⟨b, o, none⟩ = X.cell? ⟨b, o, none⟩ := World.cell?_of_block (h.box b h1 h2)
theorem KpB.putObj {n₁ B : Nat} {w : World} (h1 : n₁ ≤ w.heap.size) (h2 : B + 2 ≤ w.heap.size) (W : World) (l : Nat) (o o' : Obj) (hl : w.heap.size ≤ l) (h : W.heap[l]? = some o) (i : o.isCells = false) (j : o.isWalk = false) : KpB n₁ B W (W.putObj l o') :=
  ⟨belowK_b h1 W l o o' hl h i j, fun b _ hb => World.putObj_heap_other (by omega)⟩
theorem known_stops (n : Nat) (hn : 1 ≤ n) (B n₁ : Nat) (A : Option Addr) (c : Nat) (d : List S51) (back : Bool) (hd : d.length ≤ 1000000) (hc : d.length ≤ c) (w : World) (hB : B + 2 ≤ w.heap.size) (hn₁ : n₁ ≤ w.heap.size)
    (cBs : w.cell? ⟨B, 0, none⟩ = some (.slice A d.length c)) (cBb : w.cell? ⟨B + 1, 0, none⟩ = some (.bool back)) (hr : ∀ W', Below n₁ w W' → Kd.C k51 W' A d.length d) :
    SeqStopsK Fence.wide n Tryd.prog 98 #[.pointer (some ⟨B, 0, none⟩), .pointer (some ⟨B + 1, 0, none⟩)] (encK d) (KpB n₁ B) (fun ys => ys = upK d back (d.length + 1)) (fun pre => ∃ k, k ≤ d.length + 1 ∧ pre = upK d back k) (d.length + 1) w := fun l J Jx W hW hJ _ hY h0 =>
  known1_in n hn l B (B + 1) A c d back hd hc (KpB n₁ B) J Jx hY W (KpB.refl _ _ _) KpB.trans
    (fun X Y hX hb => KpB.of_below hb (Nat.le_trans (Nat.le_trans hn₁ hW.size) hX.below.size) (Nat.le_trans (Nat.le_trans hB hW.size) hX.below.size)) hJ
    (fun W' hk => ⟨(hk.cell (Nat.le_refl _) (by omega) 0).trans ((hW.cell (p := ⟨B, 0, none⟩) (show B < w.heap.size by omega)).trans cBs),
      (hk.cell (by omega) (by omega) 0).trans ((hW.cell (p := ⟨B + 1, 0, none⟩) (show B + 1 < w.heap.size by omega)).trans cBb), hr W' ((hW.mono hn₁).trans hk.below)⟩) h0
end Go.Proofs.YtgiihjcpgjpkcaaDoor.Q
