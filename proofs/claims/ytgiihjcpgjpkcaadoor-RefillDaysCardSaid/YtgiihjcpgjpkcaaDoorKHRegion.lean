/- Contracts walked by hand and lemmas for them, as far as RefillDays needs them. -/
import Derived.OrdersHeld
import Derived.OrdersIn
import Derived.RangeFuncCalls
namespace Go.Proofs.YtgiihjcpgjpkcaaDoor.Q
open Go.RowKit
def noDefer (ops : Array Oper) : Bool := ops.all fun o => match o.op with
  | .defer _ => false
  | _ => true
theorem noDefer_spec {ops : Array Oper} (h : noDefer ops = true) {j : Nat} {o : Oper} (ho : ops[j]? = some o) : ∀ c, o.op ≠ .defer c := by
  intro c e
  have hm := Array.mem_of_getElem? ho
  have := Array.all_eq_true_iff_forall_mem.1 h o hm
  rw [e] at this
  cases this
theorem wpAnyIn_of {l n : Nat} {P : Program} {md : Region.Mode} {ops : Array Oper} {Q : Exit → Act → World → Prop} (hd : noDefer ops = true) (hQ : ¬ LetsOut Q) : ∀ (fuel : Nat) (listed : Array Bool) (a : Act) (w : World),
    wpAny P md ops Q fuel listed a w → wpAnyIn (Fence.wide.inRound l) n P md ops Q fuel listed a w
  | 0, _, _, _, h => h
  | fuel + 1, listed, a, w, h => by
    refine ⟨h.1, fun i hi => ?_⟩
    have hp := h.2 i hi
    unfold wpOp at hp
    unfold wpOpIn
    cases ho : ops[i]? with
    | none =>
      simp only [ho] at hp ⊢
      exact wpAnyIn_of hd hQ fuel _ _ _ hp
    | some o =>
      simp only [ho] at hp ⊢
      by_cases hw : Region.wanted o (yielded ops a.tmps) = true
      · rw [if_pos hw] at hp ⊢
        rcases hp with hp | ⟨_, hl⟩
        · refine ⟨fun _ _ => trivial, ?_⟩
          have he : Oper.semAt (some l) a.eval o = execOp a.eval o := Oper.semAt_eq _ _ _ (noDefer_spec hd ho)
          show o.uponIn (Fence.wide.inRound l) n P a _ Q ((Oper.semAt (some l) a.eval o).run P w)
          rw [he]
          unfold Oper.wp at hp
          generalize (execOp a.eval o).run P w = r at *
          cases r with
          | ok nx w' =>
            cases nx <;> simp only [Oper.upon, Oper.uponIn] at hp ⊢
            case value u => exact wpAnyIn_of hd hQ fuel _ _ _ hp
            case skip => exact wpAnyIn_of hd hQ fuel _ _ _ hp
            case defer d => exact wpAnyIn_of hd hQ fuel _ _ _ hp
            case enter f args =>
              refine ⟨fun hh => by simp [Fence.inRound, Fence.wide] at hh, CallsIn.inRound l (callsIn_wide.2 (Calls.mono hp fun e w'' he => ?_))⟩
              cases e with
              | returned u => exact wpAnyIn_of hd hQ fuel _ _ _ he
              | panicked c => exact he
              | outgrown => exact he
            case row row args =>
              refine ⟨fun hh => by simp [Fence.inRound, Fence.wide] at hh, fun c cs _ => ?_⟩
              obtain ⟨v, w'', hv, hs⟩ := hp c cs
              exact ⟨v, w'', wpAnyIn_of hd hQ fuel _ _ _ hv, stepsIn_wide.2 hs⟩
          | halt x w' =>
            cases x <;> simp only [Oper.upon, Oper.uponIn] at hp ⊢
            case panic u => exact hp
        · exact absurd hl hQ
      · rw [if_neg hw] at hp ⊢
        exact ⟨fun _ _ => trivial, wpAnyIn_of hd hQ fuel _ _ _ hp⟩
theorem wpIn_region_held_round {l n id : Nat} {P : Program} {ops : Array Oper} {Q : Exit → Act → World → Prop} {S : World → Prop} {a : Act} {w : World} (hm : P.follows .mixedOrders = true) (hd : noDefer ops = true) (hQ : ¬ LetsOut Q)
    (h : wpAnyH P .any ops Q S ops.size (Array.replicate ops.size false) a w.drew) : (Code.region id ops true).wpIn (Fence.wide.inRound l) n P Q a w :=
  wpIn_region_any hm (wpAnyIn_of hd hQ _ _ _ _ (wpAny_of_held _ _ _ _ h))
end Go.Proofs.YtgiihjcpgjpkcaaDoor.Q
