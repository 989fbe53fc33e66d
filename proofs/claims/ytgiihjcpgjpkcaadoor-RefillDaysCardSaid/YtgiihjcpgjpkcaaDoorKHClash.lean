/- Contracts walked by hand and lemmas for them, as far as RefillDays needs them. -/
import Derived.Test.YtgiihjcpgjpkcaaDoorKHBlk
namespace Go.Proofs.YtgiihjcpgjpkcaaDoor.Q
open Go.RowKit Go.Shelf Go.Proofs.YtgiihjcpgjpkcaaDoorW.PrintWords Go.Proofs.YtgiihjcpgjpkcaaDoorW.PrintLast Go.Proofs.YtgiihjcpgjpkcaaDoorW.PrintMore
set_option linter.unusedVariables false
set_option linter.unusedSimpArgs false
attribute [local go_sem] Oper.semAt_some
def cannotB (d : List S51) (a b : Int) : Bool := decide ((atOf d b).f1 < (atOf d a).f0 + (SL d b - SL d a)) || decide ((atOf d a).f1 + (SH d b - SH d a) < (atOf d b).f0)
def hit (d : List S51) (b a : Int) : Bool := decide (a < b) && cannotB d a b
def clashIn (d : List S51) (b : Int) (l : List (Ix d)) : Option (Ix d) := l.find? fun a => hit d b a.1
def clashAll (d : List S51) (l : List (Ix d)) : Option (Int × Int) := l.findSome? fun b => (clashIn d b.1 (upK d true (d.length + 1))).map fun a => (a.1, b.1)
def clashOf (d : List S51) : Int × Int × Bool := match clashAll d (upK d false (d.length + 1)) with
  | some p => (p.1, p.2, true)
  | none => (0, 0, false)
theorem cannot_eq {d : List S51} (hv : vd d = true) {a b : Int} (ha : -1 ≤ a) (hab : a ≤ b) (hb : b < d.length) : refill_cannot.f 33 d a (atOf d a).f0 (atOf d a).f1 b (atOf d b).f0 (atOf d b).f1 = some (cannotB d a b) := by
  have ba := SL_bound hv a
  have bb := SL_bound hv b
  have xa := atOf_bound hv (show a < d.length by omega)
  unfold refill_cannot.f cannotB
  rw [behind_eq hv ha hab hb 33 (Nat.le_refl _)]
  simp only [Option.bind_some]
  have e1 : wrap64 ((atOf d a).f0 + (SL d b - SL d a)) = (atOf d a).f0 + (SL d b - SL d a) := by unfold wrap64; omega
  have e2 : wrap64 ((atOf d a).f1 + (SH d b - SH d a)) = (atOf d a).f1 + (SH d b - SH d a) := by unfold wrap64; omega
  rw [e1, e2]
  by_cases h : (atOf d a).f0 + (SL d b - SL d a) > (atOf d b).f1
  · rw [if_pos h, decide_eq_true (show (atOf d b).f1 < _ from h)]; rfl
  · rw [if_neg h, decide_eq_false (show ¬ (atOf d b).f1 < _ from h)]; rfl
theorem clashIn_snoc (d : List S51) (b : Int) (l : List (Ix d)) (x : Ix d) (h : clashIn d b l = none) : clashIn d b (l ++ [x]) = if hit d b x.1 = true then some x else none := by
  unfold clashIn at *
  rw [List.find?_append, h]
  by_cases e : hit d b x.1 = true <;> simp [e]
theorem clashAll_snoc (d : List S51) (l : List (Ix d)) (x : Ix d) (h : clashAll d l = none) : clashAll d (l ++ [x]) = (clashIn d x.1 (upK d true (d.length + 1))).map fun a => (a.1, x.1) := by
  unfold clashAll at *
  rw [List.findSome?_append, h]
  simp
theorem upK_add (d : List S51) (back : Bool) (k m : Nat) : ∃ r, upK d back (k + m) = upK d back k ++ r := by
  unfold upK
  rw [List.range_add, List.filterMap_append]
  exact ⟨_, rfl⟩
theorem clashIn_more {d : List S51} {b : Int} {k n : Nat} {x : Ix d} (hk : k ≤ n) (h : clashIn d b (upK d true k) = some x) : clashIn d b (upK d true n) = some x := by
  obtain ⟨r, hr⟩ := upK_add d true k (n - k)
  rw [show k + (n - k) = n from by omega] at hr
  rw [hr]
  unfold clashIn at *
  rw [List.find?_append, h]
  rfl
theorem clashAll_more {d : List S51} {k n : Nat} {x : Int × Int} (hk : k ≤ n) (h : clashAll d (upK d false k) = some x) : clashAll d (upK d false n) = some x := by
  obtain ⟨r, hr⟩ := upK_add d false k (n - k)
  rw [show k + (n - k) = n from by omega] at hr
  rw [hr]
  unfold clashAll at *
  rw [List.findSome?_append, h]
  rfl
set_option maxRecDepth 100000 in
set_option maxHeartbeats 8000000 in
theorem clash_in (n : Nat) (hn : 9 ≤ n) (A : Option Addr) (c : Nat) (d : List S51) (w : World) (hr : Kd.C k51 w A d.length d) (hc : d.length ≤ c) (hv : vd d = true) :
    CallsIn Fence.wide n Tryd.prog 68 #[.slice A d.length c] w fun e w' => e = .returned (.tuple #[.int .i64 (clashOf d).1, .int .i64 (clashOf d).2.1, .bool (clashOf d).2.2]) ∧ Below w.heap.size w w' := by
  have h1 : 1 ≤ n := by omega
  have hu49 := Tryd.underlying49
  have hd : d.length ≤ 1000000 := by have := (vd_iff.1 hv).2.1; omega
  refine callsIn_of_wp_marks Tryd.func68 rfl trivial ?_ rfl
  simp only [Tryd.ntmps68, List.size_toArray, List.length_cons, List.length_nil, Nat.reduceAdd, Nat.reduceSub, Array.replicate_succ, Array.replicate_zero, List.push_toArray, List.append_toArray, List.nil_append, List.cons_append]
  gi_wp2_with (refine ⟨trivial, ?_⟩; gi_at_call 74; refine (known_in (n - 1) _ _ _ _ _).mono ?_; rintro e w' ⟨rfl, rfl⟩)
  have hB0 : Below w.heap.size w ((((((w.alloc (.cells #[.slice A d.length c] 23)).alloc (.cells #[.int .i64 0] 3)).alloc (.cells #[.int .i64 0] 3)).alloc (.cells #[.bool false] 4)).alloc (.cells #[.slice A d.length c] 23)).alloc (.cells #[.bool false] 4)) := by
    repeat (first | exact Below.refl _ _ | refine below_alloc ?_ _)
  have b0 := (((((Blk.new w 23 #[.slice A d.length c]).alloc (.cells #[.int .i64 0] 3)).alloc (.cells #[.int .i64 0] 3)).alloc (.cells #[.bool false] 4)).alloc (.cells #[.slice A d.length c] 23)).alloc (.cells #[.bool false] 4)
  have b1 := ((((Blk.new (w.alloc (.cells #[.slice A d.length c] 23)) 3 #[.int .i64 0]).alloc (.cells #[.int .i64 0] 3)).alloc (.cells #[.bool false] 4)).alloc (.cells #[.slice A d.length c] 23)).alloc (.cells #[.bool false] 4)
  have b2 := (((Blk.new ((w.alloc (.cells #[.slice A d.length c] 23)).alloc (.cells #[.int .i64 0] 3)) 3 #[.int .i64 0]).alloc (.cells #[.bool false] 4)).alloc (.cells #[.slice A d.length c] 23)).alloc (.cells #[.bool false] 4)
  have b3 := ((Blk.new (((w.alloc (.cells #[.slice A d.length c] 23)).alloc (.cells #[.int .i64 0] 3)).alloc (.cells #[.int .i64 0] 3)) 4 #[.bool false]).alloc (.cells #[.slice A d.length c] 23)).alloc (.cells #[.bool false] 4)
  have b4 := (Blk.new ((((w.alloc (.cells #[.slice A d.length c] 23)).alloc (.cells #[.int .i64 0] 3)).alloc (.cells #[.int .i64 0] 3)).alloc (.cells #[.bool false] 4)) 23 #[.slice A d.length c]).alloc (.cells #[.bool false] 4)
  have b5 := Blk.new (((((w.alloc (.cells #[.slice A d.length c] 23)).alloc (.cells #[.int .i64 0] 3)).alloc (.cells #[.int .i64 0] 3)).alloc (.cells #[.bool false] 4)).alloc (.cells #[.slice A d.length c] 23)) 4 #[.bool false]
  simp only [World.size_alloc] at b0 b1 b2 b3 b4 b5
  have hsz : ((((((w.alloc (.cells #[.slice A d.length c] 23)).alloc (.cells #[.int .i64 0] 3)).alloc (.cells #[.int .i64 0] 3)).alloc (.cells #[.bool false] 4)).alloc (.cells #[.slice A d.length c] 23)).alloc (.cells #[.bool false] 4)).heap.size = w.heap.size + 6 := by simp
  obtain ⟨W0, hW0⟩ : ∃ W0, ((((((w.alloc (.cells #[.slice A d.length c] 23)).alloc (.cells #[.int .i64 0] 3)).alloc (.cells #[.int .i64 0] 3)).alloc (.cells #[.bool false] 4)).alloc (.cells #[.slice A d.length c] 23)).alloc (.cells #[.bool false] 4)) = W0 := ⟨_, rfl⟩
  rw [hW0] at hB0 b0 b1 b2 b3 b4 b5 hsz ⊢
  clear hW0
  refine wpIn_rangeFunc_ownH rfl h1 (gf := 98) (lb := #[.pointer (some ⟨w.heap.size + 1 + 1 + 1 + 1, 0, none⟩), .pointer (some ⟨w.heap.size + 1 + 1 + 1 + 1 + 1, 0, none⟩)]) rfl trivial (enters_of Tryd.func98 (by kernel_rfl) rfl)
    (known_stops (n - 1) (by omega) (w.heap.size + 1 + 1 + 1 + 1) w.heap.size A c d false hd hc W0 (by omega) (by omega) (by rw [b4.cell]; rfl) (by rw [b5.cell]; rfl) (fun W' hb => Kd.C_below hr (hB0.trans hb)))
    KpB.trans (KpB.putObj (by omega) (by omega)) (Below.refl _ _) (fun _ => rfl)
    (fun pre W => (((((clashAll d pre = none ∧ Blk W w.heap.size 23 #[.slice A d.length c]) ∧ Blk W (w.heap.size + 1) 3 #[.int .i64 0]) ∧ Blk W (w.heap.size + 1 + 1) 3 #[.int .i64 0]) ∧ Blk W (w.heap.size + 1 + 1 + 1) 4 #[.bool false]) ∧ Blk W (w.heap.size + 1 + 1 + 1 + 1 + 1) 4 #[.bool false]) ∧ Below w.heap.size w W)
    (fun cd pre W => (∃ p : Int × Int, (cd = .ret ∧ clashAll d pre = some p) ∧ (Blk W (w.heap.size + 1) 3 #[.int .i64 p.1] ∧ Blk W (w.heap.size + 1 + 1) 3 #[.int .i64 p.2]) ∧ Blk W (w.heap.size + 1 + 1 + 1) 4 #[.bool true]) ∧ Below w.heap.size w W)
    (OwnFrom.and (OwnFrom.and (OwnFrom.and (OwnFrom.and (OwnFrom.and (OwnFrom.and (ownFrom_pure _ _) (Own.from (blk_own _ _ _) _)) (Own.from (blk_own _ _ _) _)) (Own.from (blk_own _ _ _) _)) (Own.from (blk_own _ _ _) _)) (Own.from (blk_own _ _ _) _)) (ownFrom_below (Nat.le_refl _) (by omega)))
    (fun cd => OwnFrom.and (fun s X Y row hs hg hr => by obtain ⟨p, h1, ⟨h2, h3⟩, h4⟩ := hs; exact ⟨p, h1, ⟨blk_own _ _ (fun (_ : Unit) => #[Value.int .i64 p.1]) () X Y row h2 hg (fun r e => (hr r e).2), blk_own _ _ (fun (_ : Unit) => #[Value.int .i64 p.2]) () X Y row h3 hg (fun r e => (hr r e).2)⟩, blk_own _ _ (fun (_ : Unit) => #[Value.bool true]) () X Y row h4 hg (fun r e => (hr r e).2)⟩) (ownFrom_below (Nat.le_refl _) (by omega)))
    ⟨⟨⟨⟨⟨⟨rfl, b0⟩, b1⟩, b2⟩, b3⟩, b5⟩, hB0⟩
    (fun x a' W => ∃ Bx By, (w.heap.size + 1 + 1 + 1 + 1 + 1 < Bx ∧ Bx < By) ∧ (Blk W Bx 3 #[.int .i64 x.1] ∧ Blk W By 49 #[.int .i64 (atOf d x.1).f0, .int .i64 (atOf d x.1).f1]) ∧ a' = { tmps := #[.slice A d.length c, .pointer (some ⟨w.heap.size, 0, none⟩), .pointer (some ⟨w.heap.size + 1, 0, none⟩), .pointer (some ⟨w.heap.size + 1 + 1, 0, none⟩), .pointer (some ⟨w.heap.size + 1 + 1 + 1, 0, none⟩), .pointer (some ⟨Bx, 0, none⟩), .pointer (some ⟨By, 0, none⟩), undef, undef, .slice A d.length c, .func (.func 98) #[] #[.pointer (some ⟨w.heap.size + 1 + 1 + 1 + 1, 0, none⟩), .pointer (some ⟨w.heap.size + 1 + 1 + 1 + 1 + 1, 0, none⟩)], .int .i64 x.1, .agg #[.int .i64 (atOf d x.1).f0, .int .i64 (atOf d x.1).f1], undef, undef, undef, undef, undef, undef, undef, undef, undef, undef, undef, undef, undef, undef, undef, undef, undef], defers := [] })
    (fun x a' _ X Y row hs hg hr => by obtain ⟨Bx, By, h1, ⟨h2, h3⟩, h4⟩ := hs; exact ⟨Bx, By, h1, ⟨blk_own _ _ (fun (_ : Unit) => #[Value.int .i64 x.1]) () X Y row h2 hg (fun r e => (hr r e).2), blk_own _ _ (fun (_ : Unit) => #[Value.int .i64 (atOf d x.1).f0, Value.int .i64 (atOf d x.1).f1]) () X Y row h3 hg (fun r e => (hr r e).2)⟩, h4⟩)
    ?assign ?body ?done ?stop
  case assign =>
    rintro l pre x W K ⟨⟨⟨⟨⟨⟨hp, c0⟩, c1⟩, c2⟩, c3⟩, c5⟩, hB1⟩ hK
    have hlt := c5.lt
    have HP := Lib.hid hp
    clear hp
    gi_wp2
    exact hK _ _ (((KeepsOthers.alloc _ _).trans (KeepsOthers.alloc _ _)).from _) ((KpB.alloc (by omega) (by omega) _).trans (KpB.alloc (by first | omega | (simp only [World.size_alloc]; omega)) (by first | omega | (simp only [World.size_alloc]; omega)) _)) ⟨⟨⟨⟨⟨⟨HP.out, (c0.alloc _).alloc _⟩, (c1.alloc _).alloc _⟩, (c2.alloc _).alloc _⟩, (c3.alloc _).alloc _⟩, (c5.alloc _).alloc _⟩, (hB1.alloc (by omega) _).alloc (by first | omega | (simp only [World.size_alloc]; omega)) _⟩ ⟨W.heap.size, W.heap.size + 1, ⟨by omega, by omega⟩, ⟨(Blk.new W 3 _).alloc _, by have := Blk.new (W.alloc (.cells #[.int .i64 x.1] 3)) 49 #[.int .i64 (atOf d x.1).f0, .int .i64 (atOf d x.1).f1]; rwa [World.size_alloc] at this⟩, rfl⟩
  case body =>
    rintro l pre x a' W hl ⟨r, hr'⟩ ⟨⟨⟨⟨⟨⟨hp, c0⟩, c1⟩, c2⟩, c3⟩, c5⟩, hB1⟩ ⟨Bx, By, ⟨hBx, hBy⟩, ⟨bX, bY⟩, rfl⟩ hlen
    have HP := Lib.hid hp
    clear hp
    have hlt := c5.lt
    have hlx := bX.lt
    have hly := bY.lt
    have l0 : W.cell? ⟨w.heap.size, 0, none⟩ = some (.slice A d.length c) := by rw [c0.cell]; rfl
    have h1' : 1 ≤ n - 1 - 1 := by omega
    gi_wp2_with (refine ⟨trivial, ?_⟩; gi_at_call 74; refine (CallsIn.inRound l (known_in (n - 1 - 1 - 1) _ _ _ _ _)).mono ?_; rintro e w' ⟨rfl, rfl⟩)
    clear l0
    have e4 := (Blk.new W 23 #[.slice A d.length c]).alloc (.cells #[.bool true] 4)
    have e5 := Blk.new (W.alloc (.cells #[.slice A d.length c] 23)) 4 #[.bool true]
    rw [World.size_alloc] at e5
    have hr2 : ((W.alloc (.cells #[.slice A d.length c] 23)).alloc (.cells #[.bool true] 4)).heap[l]? = some (.loop r) := (Below.heap_alloc _ _ l (by have := (Array.getElem?_eq_some_iff.1 hr').1; simp; omega)).trans ((Below.heap_alloc W _ l (Array.getElem?_eq_some_iff.1 hr').1).trans hr')
    have kp0 : KpB w.heap.size (w.heap.size + 1 + 1 + 1 + 1) W ((W.alloc (.cells #[.slice A d.length c] 23)).alloc (.cells #[.bool true] 4)) := (KpB.alloc (by omega) (by omega) _).trans (KpB.alloc (by first | omega | (simp only [World.size_alloc]; omega)) (by first | omega | (simp only [World.size_alloc]; omega)) _)
    refine wpIn_rangeFunc_ownN (l₀ := l) (r₀ := r) rfl hr2 h1' (gf := 98) (lb := #[.pointer (some ⟨W.heap.size, 0, none⟩), .pointer (some ⟨W.heap.size + 1, 0, none⟩)]) rfl trivial (enters_of Tryd.func98 (by kernel_rfl) rfl)
      ((known_stops (n - 1 - 1 - 1) (by omega) W.heap.size w.heap.size A c d true hd hc _ (by first | omega | (simp only [World.size_alloc]; omega)) (by first | omega | (simp only [World.size_alloc]; omega)) (by rw [e4.cell]; rfl) (by rw [e5.cell]; rfl) (fun W' hb => Kd.C_below hr ((hB1.trans kp0.below).trans hb))).inRound l) KpB.trans (KpB.putObj (by first | omega | (simp only [World.size_alloc]; omega)) (by first | omega | (simp only [World.size_alloc]; omega))) (Below.refl _ _) (fun _ => rfl)
      (fun pre' W' => (((((((clashIn d x.1 pre' = none ∧ Blk W' w.heap.size 23 #[.slice A d.length c]) ∧ Blk W' (w.heap.size + 1) 3 #[.int .i64 0]) ∧ Blk W' (w.heap.size + 1 + 1) 3 #[.int .i64 0]) ∧ Blk W' (w.heap.size + 1 + 1 + 1) 4 #[.bool false]) ∧ Blk W' (w.heap.size + 1 + 1 + 1 + 1 + 1) 4 #[.bool false]) ∧ (Blk W' Bx 3 #[.int .i64 x.1] ∧ Blk W' By 49 #[.int .i64 (atOf d x.1).f0, .int .i64 (atOf d x.1).f1])) ∧ Blk W' (W.heap.size + 1) 4 #[.bool true]) ∧ (KpB w.heap.size (w.heap.size + 1 + 1 + 1 + 1) W W' ∧ KeepsFrom W0.heap.size W W'))
      (fun cd pre' W' => (∃ y : Ix d, (cd = .ret ∧ clashIn d x.1 pre' = some y) ∧ (Blk W' (w.heap.size + 1) 3 #[.int .i64 y.1] ∧ Blk W' (w.heap.size + 1 + 1) 3 #[.int .i64 x.1]) ∧ Blk W' (w.heap.size + 1 + 1 + 1) 4 #[.bool true]) ∧ (KpB w.heap.size (w.heap.size + 1 + 1 + 1 + 1) W W' ∧ KeepsFrom W0.heap.size W W'))
      (OwnFrom.and (OwnFrom.and (OwnFrom.and (OwnFrom.and (OwnFrom.and (OwnFrom.and (OwnFrom.and (OwnFrom.and (ownFrom_pure _ _) (Own.from (blk_own _ _ _) _)) (Own.from (blk_own _ _ _) _)) (Own.from (blk_own _ _ _) _)) (Own.from (blk_own _ _ _) _)) (Own.from (blk_own _ _ _) _)) (OwnFrom.and (Own.from (blk_own _ _ _) _) (Own.from (blk_own _ _ _) _))) (Own.from (blk_own _ _ _) _)) (OwnFrom.and (ownFrom_kpB (by omega) (by first | omega | (simp only [World.size_alloc]; omega)) (by first | omega | (simp only [World.size_alloc]; omega)) (by omega)) (ownFrom_keepsFrom (by first | omega | (simp only [World.size_alloc]; omega)))))
      (fun cd => OwnFrom.and (fun s X Y row hs hg hr => by obtain ⟨p, h1, ⟨h2, h3⟩, h4⟩ := hs; exact ⟨p, h1, ⟨blk_own _ _ (fun (_ : Unit) => #[Value.int .i64 p.1]) () X Y row h2 hg (fun r e => (hr r e).2), blk_own _ _ (fun (_ : Unit) => #[Value.int .i64 x.1]) () X Y row h3 hg (fun r e => (hr r e).2)⟩, blk_own _ _ (fun (_ : Unit) => #[Value.bool true]) () X Y row h4 hg (fun r e => (hr r e).2)⟩) (OwnFrom.and (ownFrom_kpB (by omega) (by first | omega | (simp only [World.size_alloc]; omega)) (by first | omega | (simp only [World.size_alloc]; omega)) (by omega)) (ownFrom_keepsFrom (by first | omega | (simp only [World.size_alloc]; omega)))))
      ⟨⟨⟨⟨⟨⟨⟨⟨rfl, (c0.alloc _).alloc _⟩, (c1.alloc _).alloc _⟩, (c2.alloc _).alloc _⟩, (c3.alloc _).alloc _⟩, (c5.alloc _).alloc _⟩, (bX.alloc _).alloc _, (bY.alloc _).alloc _⟩, e5⟩, kp0, ((KeepsOthers.alloc _ _).trans (KeepsOthers.alloc _ _)).from _⟩
      (fun y a'' W' => ∃ Bz, W.heap.size + 1 < Bz ∧ Blk W' Bz 49 #[.int .i64 (atOf d y.1).f0, .int .i64 (atOf d y.1).f1] ∧ a'' = { tmps := #[.slice A d.length c, .pointer (some ⟨w.heap.size, 0, none⟩), .pointer (some ⟨w.heap.size + 1, 0, none⟩), .pointer (some ⟨w.heap.size + 1 + 1, 0, none⟩), .pointer (some ⟨w.heap.size + 1 + 1 + 1, 0, none⟩), .pointer (some ⟨Bx, 0, none⟩), .pointer (some ⟨By, 0, none⟩), .int .i64 y.1, .pointer (some ⟨Bz, 0, none⟩), .slice A d.length c, .func (.func 98) #[] #[.pointer (some ⟨w.heap.size + 1 + 1 + 1 + 1, 0, none⟩), .pointer (some ⟨w.heap.size + 1 + 1 + 1 + 1 + 1, 0, none⟩)], .int .i64 x.1, .agg #[.int .i64 (atOf d x.1).f0, .int .i64 (atOf d x.1).f1], .slice A d.length c, .func (.func 98) #[] #[.pointer (some ⟨W.heap.size, 0, none⟩), .pointer (some ⟨W.heap.size + 1, 0, none⟩)], .int .i64 y.1, .agg #[.int .i64 (atOf d y.1).f0, .int .i64 (atOf d y.1).f1], undef, undef, undef, undef, undef, undef, undef, undef, undef, undef, undef, undef, undef], defers := [] })
      (fun y a'' _ X Y row hs hg hr => by obtain ⟨Bz, h1, h2, h3⟩ := hs; exact ⟨Bz, h1, blk_own _ _ (fun (_ : Unit) => #[Value.int .i64 (atOf d y.1).f0, Value.int .i64 (atOf d y.1).f1]) () X Y row h2 hg (fun r e => (hr r e).2), h3⟩)
      ?assign2 ?body2 ?done2 ?stop2
    case assign2 =>
      rintro l2 pre' y W' K ⟨⟨⟨⟨⟨⟨⟨⟨hq, g0⟩, g1⟩, g2⟩, g3⟩, g5⟩, gX, gY⟩, ge5⟩, hKp, hKF⟩ hK
      have hlt2 := ge5.lt
      have HQ := Lib.hid hq
      clear hq
      gi_wp2
      exact hK _ _ ((KeepsOthers.alloc _ _).from _) (KpB.alloc (by omega) (by omega) _) ⟨⟨⟨⟨⟨⟨⟨⟨HQ.out, g0.alloc _⟩, g1.alloc _⟩, g2.alloc _⟩, g3.alloc _⟩, g5.alloc _⟩, gX.alloc _, gY.alloc _⟩, ge5.alloc _⟩, hKp.trans (KpB.alloc (by omega) (by omega) _), hKF.trans ((KeepsOthers.alloc _ _).from _)⟩ ⟨W'.heap.size, by omega, Blk.new W' 49 _, rfl⟩
    case body2 =>
      rintro l2 pre' y a'' W' _ _ ⟨⟨⟨⟨⟨⟨⟨⟨hq, g0⟩, g1⟩, g2⟩, g3⟩, g5⟩, gX, gY⟩, ge5⟩, hKp, hKF⟩ ⟨Bz, hBz, bZ, rfl⟩ _
      have hlt2 := ge5.lt
      have HQ := Lib.hid hq
      clear hq
      have l0 : W'.cell? ⟨w.heap.size, 0, none⟩ = some (.slice A d.length c) := by rw [g0.cell]; rfl
      have lX : W'.cell? ⟨Bx, 0, none⟩ = some (.int .i64 x.1) := by rw [gX.cell]; rfl
      have lY0 : W'.cell? ⟨By, 0, none⟩ = some (.int .i64 (atOf d x.1).f0) := by rw [gY.cell]; rfl
      have lY1 : W'.cell? ⟨By, 1, none⟩ = some (.int .i64 (atOf d x.1).f1) := by rw [gY.cell]; rfl
      have lZ0 : W'.cell? ⟨Bz, 0, none⟩ = some (.int .i64 (atOf d y.1).f0) := by rw [bZ.cell]; rfl
      have lZ1 : W'.cell? ⟨Bz, 1, none⟩ = some (.int .i64 (atOf d y.1).f1) := by rw [bZ.cell]; rfl
      have hkd : Kd.C k51 W' A d.length d := Kd.C_below hr (hB1.trans hKp.below)
      have h1'' : 1 ≤ n - 1 - 1 - 1 - 1 := by omega
      have hlo : w.heap.size ≤ W'.heap.size := Nat.le_trans hB1.size hKp.below.size
      by_cases hyx : y.1 < x.1
      · have hdec : decide (y.1 < x.1) = true := decide_eq_true hyx
        have hce := cannot_eq hv y.2.1 (show y.1 ≤ x.1 by omega) x.2.2.1
        have hsn := clashIn_snoc d x.1 pre' y HQ.out
        cases hcb : cannotB d y.1 x.1
        · rw [hcb] at hce
          have hno : clashIn d x.1 (pre' ++ [y]) = none := by rw [hsn, if_neg (by simp [hit, hcb])]
          have HNO := Lib.hid hno
          have HCE := Lib.hid hce
          clear hno hce hsn hcb
          gi_wp2_with fail
          refine ⟨trivial, ?_⟩
          gi_at_call 71
          refine (CallsIn.inRound l2 (CallsIn.inRound l (callsIn_wide.2 (refill_cannot.calls 33 A c d _ _ _ _ _ _ _ _ hkd hc HCE.out)))).mono ?_
          rintro e w1 ⟨rfl, hb1⟩
          gi_wp2
          have hmm : Below w.heap.size W' w1 := hb1.mono hlo
          exact ⟨(KeepsOthers.of_below hb1).from _, KpB.of_below hb1 (by omega) (by omega), ⟨⟨⟨⟨⟨⟨⟨HNO.out, g0.below' hb1⟩, g1.below' hb1⟩, g2.below' hb1⟩, g3.below' hb1⟩, g5.below' hb1⟩, gX.below' hb1, gY.below' hb1⟩, ge5.below' hb1⟩, hKp.trans (KpB.of_below hb1 (by omega) (by omega)), hKF.trans ((KeepsOthers.of_below hb1).from _)⟩
        · rw [hcb] at hce
          have hyes : clashIn d x.1 (pre' ++ [y]) = some y := by rw [hsn, if_pos (by simp [hit, hcb, hyx])]
          have HYES := Lib.hid hyes
          have HCE := Lib.hid hce
          clear hyes hce hsn hcb
          gi_wp2_with fail
          refine ⟨trivial, ?_⟩
          gi_at_call 71
          refine (CallsIn.inRound l2 (CallsIn.inRound l (callsIn_wide.2 (refill_cannot.calls 33 A c d _ _ _ _ _ _ _ _ hkd hc HCE.out)))).mono ?_
          rintro e w1 ⟨rfl, hb1⟩
          gi_wp2
          have k1 := g1.below' hb1
          have k2 := g2.below' hb1
          have k3 := g3.below' hb1
          have kX := gX.below' hb1
          have f1 := k1.frozen 0
          have f2 := k2.frozen 0
          have f3 := k3.frozen 0
          have m1 : w1.cell? ⟨w.heap.size + 1, 0, none⟩ = some (.int .i64 0) := by rw [k1.cell]; rfl
          have m2 : w1.cell? ⟨w.heap.size + 1 + 1, 0, none⟩ = some (.int .i64 0) := by rw [k2.cell]; rfl
          have m3 : w1.cell? ⟨w.heap.size + 1 + 1 + 1, 0, none⟩ = some (.bool false) := by rw [k3.cell]; rfl
          have mX : w1.cell? ⟨Bx, 0, none⟩ = some (.int .i64 x.1) := by rw [kX.cell]; rfl
          have n1 := Blk.drew ((((k1.set_ 0 (.int .i64 y.1)).far (p := ⟨w.heap.size + 1 + 1, 0, none⟩) (by dsimp only; omega) (.int .i64 x.1)).far (p := ⟨w.heap.size + 1 + 1 + 1, 0, none⟩) (by dsimp only; omega) (.bool true)))
          have n2 := Blk.drew (((k2.far (p := ⟨w.heap.size + 1, 0, none⟩) (by dsimp only; omega) (.int .i64 y.1)).set_ 0 (.int .i64 x.1)).far (p := ⟨w.heap.size + 1 + 1 + 1, 0, none⟩) (by dsimp only; omega) (.bool true))
          have n3 := Blk.drew (((k3.far (p := ⟨w.heap.size + 1, 0, none⟩) (by dsimp only; omega) (.int .i64 y.1)).far (p := ⟨w.heap.size + 1 + 1, 0, none⟩) (by dsimp only; omega) (.int .i64 x.1)).set_ 0 (.bool true))
          have kp3 : KpB w.heap.size (w.heap.size + 1 + 1 + 1 + 1) W' (((w1.setCell ⟨w.heap.size + 1, 0, none⟩ (.int .i64 y.1)).setCell ⟨w.heap.size + 1 + 1, 0, none⟩ (.int .i64 x.1)).setCell ⟨w.heap.size + 1 + 1 + 1, 0, none⟩ (.bool true)).drew := (((KpB.of_below hb1 (by omega) (by omega)).trans (KpB.setCell (p := ⟨w.heap.size + 1, 0, none⟩) (by dsimp only; omega) (by dsimp only; omega) _)).trans (KpB.setCell (p := ⟨w.heap.size + 1 + 1, 0, none⟩) (by dsimp only; omega) (by dsimp only; omega) _)).trans ((KpB.setCell (p := ⟨w.heap.size + 1 + 1 + 1, 0, none⟩) (by dsimp only; omega) (by dsimp only; omega) _).trans (KpB.drew _ _ _))
          have kf3 : KeepsOthers W' (((w1.setCell ⟨w.heap.size + 1, 0, none⟩ (.int .i64 y.1)).setCell ⟨w.heap.size + 1 + 1, 0, none⟩ (.int .i64 x.1)).setCell ⟨w.heap.size + 1 + 1 + 1, 0, none⟩ (.bool true)).drew := ((((KeepsOthers.of_below hb1).trans (KeepsOthers.setCell _ _ _)).trans (KeepsOthers.setCell _ _ _)).trans (KeepsOthers.setCell _ _ _)).trans (KeepsOthers.drew _)
          have N1 := Lib.hid n1
          have N2 := Lib.hid n2
          have N3 := Lib.hid n3
          have KP3 := Lib.hid kp3
          have KF3 := Lib.hid kf3
          clear n1 n2 n3 kp3 kf3
          gi_region
          all_goals
            gi_wp2
            exact ⟨KF3.out.from _, ⟨y, ⟨rfl, HYES.out⟩, ⟨N1.out, N2.out⟩, N3.out⟩, hKp.trans KP3.out, hKF.trans (KF3.out.from _)⟩
      · have hdec : decide (y.1 < x.1) = false := decide_eq_false hyx
        have hno : clashIn d x.1 (pre' ++ [y]) = none := by rw [clashIn_snoc d x.1 pre' y HQ.out, if_neg (by simp [hit, hyx])]
        have HNO := Lib.hid hno
        clear hno hyx
        gi_wp2_with fail
        refine ⟨trivial, ?_⟩
        gi_wp2
        exact ⟨KeepsFrom.refl _ _, KpB.refl _ _ _, ⟨⟨⟨⟨⟨⟨⟨HNO.out, g0⟩, g1⟩, g2⟩, g3⟩, g5⟩, gX, gY⟩, ge5⟩, hKp, hKF⟩
    case done2 =>
      rintro ys' W' rfl ⟨⟨⟨⟨⟨⟨⟨⟨hq, g0⟩, g1⟩, g2⟩, g3⟩, g5⟩, gX, gY⟩, ge5⟩, hKp, hKF⟩
      have hn : clashAll d (pre ++ [x]) = none := by rw [clashAll_snoc d pre x HP.out, hq]; rfl
      have HN := Lib.hid hn
      clear hn hq
      gi_wp2
      exact ⟨hKF, hKp, ⟨⟨⟨⟨⟨HN.out, g0⟩, g1⟩, g2⟩, g3⟩, g5⟩, hB1.trans hKp.below⟩
    case stop2 =>
      rintro cd pre' W' ⟨k, hk, rfl⟩ ⟨⟨y, ⟨rfl, hq⟩, ⟨g1, g2⟩, g3⟩, hKp, hKF⟩
      have hs : clashAll d (pre ++ [x]) = some (y.1, x.1) := by rw [clashAll_snoc d pre x HP.out, clashIn_more hk hq]; rfl
      have HS := Lib.hid hs
      clear hs hq
      gi_wp2
      exact ⟨hKF, ⟨(y.1, x.1), ⟨rfl, HS.out⟩, ⟨g1, g2⟩, g3⟩, hB1.trans hKp.below⟩
  case done =>
    rintro D zs W hD rfl ⟨⟨⟨⟨⟨⟨hp, c0⟩, c1⟩, c2⟩, c3⟩, c5⟩, hB1⟩ hK
    have hres : clashOf d = (0, 0, false) := by unfold clashOf; rw [hp]
    have HRES := Lib.hid hres
    clear hp hres
    have f1 := c1.frozen 0
    have f2 := c2.frozen 0
    have f3 := c3.frozen 0
    have l1 : W.cell? ⟨w.heap.size + 1, 0, none⟩ = some (.int .i64 0) := by rw [c1.cell]; rfl
    have l2 : W.cell? ⟨w.heap.size + 1 + 1, 0, none⟩ = some (.int .i64 0) := by rw [c2.cell]; rfl
    have l3 : W.cell? ⟨w.heap.size + 1 + 1 + 1, 0, none⟩ = some (.bool false) := by rw [c3.cell]; rfl
    gi_wp2
    have hK1 := (((KeepsOthers.setCell W ⟨w.heap.size + 1, 0, none⟩ (.int .i64 0)).trans (KeepsOthers.setCell _ ⟨w.heap.size + 1 + 1, 0, none⟩ (.int .i64 0))).trans (KeepsOthers.setCell _ ⟨w.heap.size + 1 + 1 + 1, 0, none⟩ (.bool false))).same D _ hK rfl
    have q1 := (((c1.set_ 0 (.int .i64 0)).far (p := ⟨w.heap.size + 1 + 1, 0, none⟩) (by dsimp only; omega) (.int .i64 0)).far (p := ⟨w.heap.size + 1 + 1 + 1, 0, none⟩) (by dsimp only; omega) (.bool false))
    have q2 := ((c2.far (p := ⟨w.heap.size + 1, 0, none⟩) (by dsimp only; omega) (.int .i64 0)).set_ 0 (.int .i64 0)).far (p := ⟨w.heap.size + 1 + 1 + 1, 0, none⟩) (by dsimp only; omega) (.bool false)
    have q3 := ((c3.far (p := ⟨w.heap.size + 1, 0, none⟩) (by dsimp only; omega) (.int .i64 0)).far (p := ⟨w.heap.size + 1 + 1, 0, none⟩) (by dsimp only; omega) (.int .i64 0)).set_ 0 (.bool false)
    refine ⟨by simp, .inl ⟨_, _, rfl, run_takeDeferred hK1, ?_⟩⟩
    have z1 := cell_kept (show _ = some (Value.int .i64 0) from q1.cell 0) (grownBy_putObj' _ D (.deferred none)) (fun r e => by cases e; exact ⟨_, hK1, rfl⟩)
    have z2 := cell_kept (show _ = some (Value.int .i64 0) from q2.cell 0) (grownBy_putObj' _ D (.deferred none)) (fun r e => by cases e; exact ⟨_, hK1, rfl⟩)
    have z3 := cell_kept (show _ = some (Value.bool false) from q3.cell 0) (grownBy_putObj' _ D (.deferred none)) (fun r e => by cases e; exact ⟨_, hK1, rfl⟩)
    refine ⟨.tuple #[.int .i64 0, .int .i64 0, .bool false], ?_, by rw [HRES.out], (((hB1.setCell (p := ⟨w.heap.size + 1, 0, none⟩) (by dsimp only; omega) _).setCell (p := ⟨w.heap.size + 1 + 1, 0, none⟩) (by dsimp only; omega) _).setCell (p := ⟨w.heap.size + 1 + 1 + 1, 0, none⟩) (by dsimp only; omega) _).trans (belowK_b (w := w) (Nat.le_refl _) _ D _ _ (by omega) hK1 rfl rfl)⟩
    simp [results, Tryd.f68, go_sem, z1, z2, z3]
  case stop =>
    rintro D cd pre W hD ⟨k, hk, rfl⟩ ⟨⟨p, ⟨rfl, hp⟩, ⟨c1, c2⟩, c3⟩, hB1⟩ hK
    have hres : clashOf d = (p.1, p.2, true) := by unfold clashOf; rw [clashAll_more hk hp]
    have HRES := Lib.hid hres
    clear hp hres
    gi_wp2
    refine ⟨by simp, .inl ⟨_, _, rfl, run_takeDeferred hK, ?_⟩⟩
    have z1 := cell_kept (show _ = some (Value.int .i64 p.1) from c1.cell 0) (grownBy_putObj' _ D (.deferred none)) (fun r e => by cases e; exact ⟨_, hK, rfl⟩)
    have z2 := cell_kept (show _ = some (Value.int .i64 p.2) from c2.cell 0) (grownBy_putObj' _ D (.deferred none)) (fun r e => by cases e; exact ⟨_, hK, rfl⟩)
    have z3 := cell_kept (show _ = some (Value.bool true) from c3.cell 0) (grownBy_putObj' _ D (.deferred none)) (fun r e => by cases e; exact ⟨_, hK, rfl⟩)
    refine ⟨.tuple #[.int .i64 p.1, .int .i64 p.2, .bool true], ?_, by rw [HRES.out], hB1.trans (belowK_b (w := w) (Nat.le_refl _) W D _ _ (by omega) hK rfl rfl)⟩
    simp [results, Tryd.f68, go_sem, z1, z2, z3]
def refill_clash.f (l0 : List S51) : Option (Int × Int × Bool) := if vd l0 = true then some (clashOf l0) else none
theorem refill_clash.calls (A0 : Option Addr) (c0 : Nat) (l0 : List S51) (r1 : Int) (r2 : Int) (r3 : Bool) (w : World) (hr0 : Kd.C k51 w A0 l0.length l0) (hc0 : l0.length ≤ c0) (h : refill_clash.f l0 = some (r1, r2, r3)) :
    Calls Tryd.prog 68 #[.slice A0 l0.length c0] w fun e w' => e = .returned (.tuple #[.int .i64 r1, .int .i64 r2, .bool r3]) ∧ Below w.heap.size w w' := by
  unfold refill_clash.f at h
  by_cases hv : vd l0 = true
  · rw [if_pos hv] at h
    have h2 := Option.some.inj h
    have := callsIn_wide.1 (clash_in 9 (Nat.le_refl _) A0 c0 l0 w hr0 hc0 hv)
    rw [h2] at this
    exact this
  · rw [if_neg hv] at h
    cases h
end Go.Proofs.YtgiihjcpgjpkcaaDoor.Q
