/-
  NARROWER THAN 'FOR EVERY INPUT', by the rows' own cells (each row's printed sentence says how): RefillAttains: laid · RefillClashes: laid · RefillProofs: laid · RefillClosed: laid · RefillWithout: laid · RefillAll: laid · RefillAttained: laid · RefillProved: laid · RefillChains: laid · RefillMoved: laid · RefillTimes: laid · RefillKnown: laid · RefillPrefix: laid · RefillTruth: laid · RefillDays: laid.
  DERIVED. THE GIVEN ROWS OF THIS SEAT. 15 by the template 'for every input the law returns true; each argument reads behind the call as it read before'; 0 by the template 'total and deterministic' (their statements: YtgiihjcpgjpkcaaDoorTotals.lean).
  GIVEN WITH THE SEED: the statements are not yours to turn. If you find one false, say at which input.
  Laid BY PROGRAM, IN A SANDBOX (cutbox-rows.mjs): the forced cells as the released guide's own fill.sh prints them over the translation 4fb922e176c3ae59… (all of the seat's roots in one cut). By AI agents, Wed Nov 11 2026. No macro, syntax, notation, axiom, sorry.
-/
import Derived.Test.YtgiihjcpgjpkcaaDoorChecked
import GoSem.Claim
import GoSem.ClaimJoined
import GoSem.ClaimMapViews
import Derived.JoinedTies
import Derived.KernelRfl
namespace Go.Proofs.YtgiihjcpgjpkcaaDoor
/- THE CELL 'sum', in the pinned program and in every row, IS THE sha256 OF THE DUMP (.gsa) THAT YtgiihjcpgjpkcaaDoorProg.lean LOADS. Nothing in Lean hashes anything: it is a label: what it is worth is what the hold of that sum in a sandbox is worth. -/
noncomputable def Tryd.pinned : Pinned := { name := "ytgiihjcpgjpkcaadoor", sum := "4fb922e176c3ae59761602322ce45f6d0d91d4429ede566749f8d5b8a4e141e4", checked := Tryd.checked }
namespace Rows
def none {H : Type} : Left H := { results := [], args := [] }

/- WHAT THE LISTED PACKAGE-LEVEL VARIABLES READ AS WHEN THE CALL BEGINS. Each datum BY PROGRAM (the guide's laid-datum.mjs) off the statement by which the dump's own 'gosem.cut.vars' lays the variable. In a bare row this is a premise. The card (YtgiihjcpgjpkcaaDoorCards.lean) ties it to the program's text. -/
def laid_math_bits_deBruijn32tab {H : Type} : DataW H := .agg [.lit (.int .u8 0), .lit (.int .u8 1), .lit (.int .u8 28), .lit (.int .u8 2), .lit (.int .u8 29), .lit (.int .u8 14), .lit (.int .u8 24), .lit (.int .u8 3), .lit (.int .u8 30), .lit (.int .u8 22), .lit (.int .u8 20), .lit (.int .u8 15), .lit (.int .u8 25), .lit (.int .u8 17), .lit (.int .u8 4), .lit (.int .u8 8), .lit (.int .u8 31), .lit (.int .u8 27), .lit (.int .u8 13), .lit (.int .u8 23), .lit (.int .u8 21), .lit (.int .u8 19), .lit (.int .u8 16), .lit (.int .u8 7), .lit (.int .u8 26), .lit (.int .u8 12), .lit (.int .u8 18), .lit (.int .u8 6), .lit (.int .u8 11), .lit (.int .u8 5), .lit (.int .u8 10), .lit (.int .u8 9)]
def laid_math_bits_deBruijn64tab {H : Type} : DataW H := .agg [.lit (.int .u8 0), .lit (.int .u8 1), .lit (.int .u8 56), .lit (.int .u8 2), .lit (.int .u8 57), .lit (.int .u8 49), .lit (.int .u8 28), .lit (.int .u8 3), .lit (.int .u8 61), .lit (.int .u8 58), .lit (.int .u8 42), .lit (.int .u8 50), .lit (.int .u8 38), .lit (.int .u8 29), .lit (.int .u8 17), .lit (.int .u8 4), .lit (.int .u8 62), .lit (.int .u8 47), .lit (.int .u8 59), .lit (.int .u8 36), .lit (.int .u8 45), .lit (.int .u8 43), .lit (.int .u8 51), .lit (.int .u8 22), .lit (.int .u8 53), .lit (.int .u8 39), .lit (.int .u8 33), .lit (.int .u8 30), .lit (.int .u8 24), .lit (.int .u8 18), .lit (.int .u8 12), .lit (.int .u8 5), .lit (.int .u8 63), .lit (.int .u8 55), .lit (.int .u8 48), .lit (.int .u8 27), .lit (.int .u8 60), .lit (.int .u8 41), .lit (.int .u8 37), .lit (.int .u8 16), .lit (.int .u8 46), .lit (.int .u8 35), .lit (.int .u8 44), .lit (.int .u8 21), .lit (.int .u8 52), .lit (.int .u8 32), .lit (.int .u8 23), .lit (.int .u8 11), .lit (.int .u8 54), .lit (.int .u8 26), .lit (.int .u8 40), .lit (.int .u8 15), .lit (.int .u8 34), .lit (.int .u8 20), .lit (.int .u8 31), .lit (.int .u8 10), .lit (.int .u8 25), .lit (.int .u8 14), .lit (.int .u8 19), .lit (.int .u8 9), .lit (.int .u8 13), .lit (.int .u8 8), .lit (.int .u8 7), .lit (.int .u8 6)]
def laid_internal_strconv_uint64pow10 {H : Type} : DataW H := .agg [.lit (.int .u64 1), .lit (.int .u64 10), .lit (.int .u64 100), .lit (.int .u64 1000), .lit (.int .u64 10000), .lit (.int .u64 100000), .lit (.int .u64 1000000), .lit (.int .u64 10000000), .lit (.int .u64 100000000), .lit (.int .u64 1000000000), .lit (.int .u64 10000000000), .lit (.int .u64 100000000000), .lit (.int .u64 1000000000000), .lit (.int .u64 10000000000000), .lit (.int .u64 100000000000000), .lit (.int .u64 1000000000000000), .lit (.int .u64 10000000000000000), .lit (.int .u64 100000000000000000), .lit (.int .u64 1000000000000000000), .lit (.int .u64 10000000000000000000)]

/-- 'waterhourlaw04.RefillAttains': WHATEVER THE INPUT: true; the input reads as it did. -/
def refillAttainsSpec : ChangeSpec := { name := "refillAttains", fn := fun _ => fun
  | [d1, d2, d3] => { results := [.lit (.bool true)], args := [d1, d2, d3] }
  | _ => none }
def refillAttainsRow : OpenClaim := { program := "ytgiihjcpgjpkcaadoor", sum := "4fb922e176c3ae59761602322ce45f6d0d91d4429ede566749f8d5b8a4e141e4", func := "waterhour/waterhourlaw04.RefillAttains", spec := "refillAttains", inPlace := ["internal/abi.NoEscape", "internal/bytealg.MakeNoZero"], unfollowed := true, recurses := true, named := ["internal/strconv.uint64pow10", "math/bits.deBruijn32tab", "math/bits.deBruijn64tab"], apart := false, laid := [("math/bits.deBruijn32tab", laid_math_bits_deBruijn32tab), ("math/bits.deBruijn64tab", laid_math_bits_deBruijn64tab), ("internal/strconv.uint64pow10", laid_internal_strconv_uint64pow10)] }
def RefillAttainsSaid : Prop := refillAttainsRow.holds Tryd.pinned (OpenSpec.ofChange refillAttainsSpec)

/-- ITS FALSE NEIGHBOUR: 'it returns false'. Refute it at one input. -/
def refillAttainsWrong : ChangeSpec := { name := "refillAttains", fn := fun _ => fun
  | [d1, d2, d3] => { results := [.lit (.bool false)], args := [d1, d2, d3] }
  | _ => none }
def RefillAttainsWrongFalsely : Prop := refillAttainsRow.holds Tryd.pinned (OpenSpec.ofChange refillAttainsWrong)

/-- 'waterhourlaw04.RefillClashes': WHATEVER THE INPUT: true; the input reads as it did. -/
def refillClashesSpec : ChangeSpec := { name := "refillClashes", fn := fun _ => fun
  | [d1, d2, d3] => { results := [.lit (.bool true)], args := [d1, d2, d3] }
  | _ => none }
def refillClashesRow : OpenClaim := { program := "ytgiihjcpgjpkcaadoor", sum := "4fb922e176c3ae59761602322ce45f6d0d91d4429ede566749f8d5b8a4e141e4", func := "waterhour/waterhourlaw04.RefillClashes", spec := "refillClashes", inPlace := ["internal/abi.NoEscape", "internal/bytealg.MakeNoZero"], unfollowed := true, recurses := true, named := ["internal/strconv.uint64pow10", "math/bits.deBruijn32tab", "math/bits.deBruijn64tab"], apart := false, laid := [("math/bits.deBruijn32tab", laid_math_bits_deBruijn32tab), ("math/bits.deBruijn64tab", laid_math_bits_deBruijn64tab), ("internal/strconv.uint64pow10", laid_internal_strconv_uint64pow10)] }
def RefillClashesSaid : Prop := refillClashesRow.holds Tryd.pinned (OpenSpec.ofChange refillClashesSpec)

/-- ITS FALSE NEIGHBOUR: 'it returns false'. Refute it at one input. -/
def refillClashesWrong : ChangeSpec := { name := "refillClashes", fn := fun _ => fun
  | [d1, d2, d3] => { results := [.lit (.bool false)], args := [d1, d2, d3] }
  | _ => none }
def RefillClashesWrongFalsely : Prop := refillClashesRow.holds Tryd.pinned (OpenSpec.ofChange refillClashesWrong)

/-- 'waterhourlaw04.RefillProofs': WHATEVER THE INPUT: true; the input reads as it did. -/
def refillProofsSpec : ChangeSpec := { name := "refillProofs", fn := fun _ => fun
  | [d1, d2, d3, d4, d5] => { results := [.lit (.bool true)], args := [d1, d2, d3, d4, d5] }
  | _ => none }
def refillProofsRow : OpenClaim := { program := "ytgiihjcpgjpkcaadoor", sum := "4fb922e176c3ae59761602322ce45f6d0d91d4429ede566749f8d5b8a4e141e4", func := "waterhour/waterhourlaw04.RefillProofs", spec := "refillProofs", inPlace := ["internal/abi.NoEscape", "internal/bytealg.MakeNoZero"], unfollowed := true, recurses := true, named := ["internal/strconv.uint64pow10", "math/bits.deBruijn32tab", "math/bits.deBruijn64tab"], apart := false, laid := [("math/bits.deBruijn32tab", laid_math_bits_deBruijn32tab), ("math/bits.deBruijn64tab", laid_math_bits_deBruijn64tab), ("internal/strconv.uint64pow10", laid_internal_strconv_uint64pow10)] }
def RefillProofsSaid : Prop := refillProofsRow.holds Tryd.pinned (OpenSpec.ofChange refillProofsSpec)

/-- ITS FALSE NEIGHBOUR: 'it returns false'. Refute it at one input. -/
def refillProofsWrong : ChangeSpec := { name := "refillProofs", fn := fun _ => fun
  | [d1, d2, d3, d4, d5] => { results := [.lit (.bool false)], args := [d1, d2, d3, d4, d5] }
  | _ => none }
def RefillProofsWrongFalsely : Prop := refillProofsRow.holds Tryd.pinned (OpenSpec.ofChange refillProofsWrong)

/-- 'waterhourlaw04.RefillClosed': WHATEVER THE INPUT: true; the input reads as it did. -/
def refillClosedSpec : ChangeSpec := { name := "refillClosed", fn := fun _ => fun
  | [d1, d2] => { results := [.lit (.bool true)], args := [d1, d2] }
  | _ => none }
def refillClosedRow : OpenClaim := { program := "ytgiihjcpgjpkcaadoor", sum := "4fb922e176c3ae59761602322ce45f6d0d91d4429ede566749f8d5b8a4e141e4", func := "waterhour/waterhourlaw04.RefillClosed", spec := "refillClosed", inPlace := ["internal/abi.NoEscape", "internal/bytealg.MakeNoZero"], unfollowed := true, recurses := true, named := ["internal/strconv.uint64pow10", "math/bits.deBruijn32tab", "math/bits.deBruijn64tab"], apart := false, laid := [("math/bits.deBruijn32tab", laid_math_bits_deBruijn32tab), ("math/bits.deBruijn64tab", laid_math_bits_deBruijn64tab), ("internal/strconv.uint64pow10", laid_internal_strconv_uint64pow10)] }
def RefillClosedSaid : Prop := refillClosedRow.holds Tryd.pinned (OpenSpec.ofChange refillClosedSpec)

/-- ITS FALSE NEIGHBOUR: 'it returns false'. Refute it at one input. -/
def refillClosedWrong : ChangeSpec := { name := "refillClosed", fn := fun _ => fun
  | [d1, d2] => { results := [.lit (.bool false)], args := [d1, d2] }
  | _ => none }
def RefillClosedWrongFalsely : Prop := refillClosedRow.holds Tryd.pinned (OpenSpec.ofChange refillClosedWrong)

/-- 'waterhourlaw04.RefillWithout': WHATEVER THE INPUT: true; the input reads as it did. -/
def refillWithoutSpec : ChangeSpec := { name := "refillWithout", fn := fun _ => fun
  | [d1, d2, d3, d4] => { results := [.lit (.bool true)], args := [d1, d2, d3, d4] }
  | _ => none }
def refillWithoutRow : OpenClaim := { program := "ytgiihjcpgjpkcaadoor", sum := "4fb922e176c3ae59761602322ce45f6d0d91d4429ede566749f8d5b8a4e141e4", func := "waterhour/waterhourlaw04.RefillWithout", spec := "refillWithout", inPlace := ["internal/abi.NoEscape", "internal/bytealg.MakeNoZero"], unfollowed := true, recurses := true, named := ["internal/strconv.uint64pow10", "math/bits.deBruijn32tab", "math/bits.deBruijn64tab"], apart := false, laid := [("math/bits.deBruijn32tab", laid_math_bits_deBruijn32tab), ("math/bits.deBruijn64tab", laid_math_bits_deBruijn64tab), ("internal/strconv.uint64pow10", laid_internal_strconv_uint64pow10)] }
def RefillWithoutSaid : Prop := refillWithoutRow.holds Tryd.pinned (OpenSpec.ofChange refillWithoutSpec)

/-- ITS FALSE NEIGHBOUR: 'it returns false'. Refute it at one input. -/
def refillWithoutWrong : ChangeSpec := { name := "refillWithout", fn := fun _ => fun
  | [d1, d2, d3, d4] => { results := [.lit (.bool false)], args := [d1, d2, d3, d4] }
  | _ => none }
def RefillWithoutWrongFalsely : Prop := refillWithoutRow.holds Tryd.pinned (OpenSpec.ofChange refillWithoutWrong)

/-- 'waterhourlaw04.RefillAll': WHATEVER THE INPUT: true; the input reads as it did. -/
def refillAllSpec : ChangeSpec := { name := "refillAll", fn := fun _ => fun
  | [d1, d2, d3, d4, d5] => { results := [.lit (.bool true)], args := [d1, d2, d3, d4, d5] }
  | _ => none }
def refillAllRow : OpenClaim := { program := "ytgiihjcpgjpkcaadoor", sum := "4fb922e176c3ae59761602322ce45f6d0d91d4429ede566749f8d5b8a4e141e4", func := "waterhour/waterhourlaw04.RefillAll", spec := "refillAll", inPlace := ["internal/abi.NoEscape", "internal/bytealg.MakeNoZero"], unfollowed := true, recurses := true, named := ["internal/strconv.uint64pow10", "math/bits.deBruijn32tab", "math/bits.deBruijn64tab"], apart := false, laid := [("math/bits.deBruijn32tab", laid_math_bits_deBruijn32tab), ("math/bits.deBruijn64tab", laid_math_bits_deBruijn64tab), ("internal/strconv.uint64pow10", laid_internal_strconv_uint64pow10)] }
def RefillAllSaid : Prop := refillAllRow.holds Tryd.pinned (OpenSpec.ofChange refillAllSpec)

/-- ITS FALSE NEIGHBOUR: 'it returns false'. Refute it at one input. -/
def refillAllWrong : ChangeSpec := { name := "refillAll", fn := fun _ => fun
  | [d1, d2, d3, d4, d5] => { results := [.lit (.bool false)], args := [d1, d2, d3, d4, d5] }
  | _ => none }
def RefillAllWrongFalsely : Prop := refillAllRow.holds Tryd.pinned (OpenSpec.ofChange refillAllWrong)

/-- 'waterhourlaw04.RefillAttained': WHATEVER THE INPUT: true; the input reads as it did. -/
def refillAttainedSpec : ChangeSpec := { name := "refillAttained", fn := fun _ => fun
  | [d1, d2, d3, d4, d5, d6] => { results := [.lit (.bool true)], args := [d1, d2, d3, d4, d5, d6] }
  | _ => none }
def refillAttainedRow : OpenClaim := { program := "ytgiihjcpgjpkcaadoor", sum := "4fb922e176c3ae59761602322ce45f6d0d91d4429ede566749f8d5b8a4e141e4", func := "waterhour/waterhourlaw04.RefillAttained", spec := "refillAttained", inPlace := ["internal/abi.NoEscape", "internal/bytealg.MakeNoZero"], unfollowed := true, recurses := true, named := ["internal/strconv.uint64pow10", "math/bits.deBruijn32tab", "math/bits.deBruijn64tab"], apart := false, laid := [("math/bits.deBruijn32tab", laid_math_bits_deBruijn32tab), ("math/bits.deBruijn64tab", laid_math_bits_deBruijn64tab), ("internal/strconv.uint64pow10", laid_internal_strconv_uint64pow10)] }
def RefillAttainedSaid : Prop := refillAttainedRow.holds Tryd.pinned (OpenSpec.ofChange refillAttainedSpec)

/-- ITS FALSE NEIGHBOUR: 'it returns false'. Refute it at one input. -/
def refillAttainedWrong : ChangeSpec := { name := "refillAttained", fn := fun _ => fun
  | [d1, d2, d3, d4, d5, d6] => { results := [.lit (.bool false)], args := [d1, d2, d3, d4, d5, d6] }
  | _ => none }
def RefillAttainedWrongFalsely : Prop := refillAttainedRow.holds Tryd.pinned (OpenSpec.ofChange refillAttainedWrong)

/-- 'waterhourlaw04.RefillProved': WHATEVER THE INPUT: true; the input reads as it did. -/
def refillProvedSpec : ChangeSpec := { name := "refillProved", fn := fun _ => fun
  | [d1, d2, d3, d4] => { results := [.lit (.bool true)], args := [d1, d2, d3, d4] }
  | _ => none }
def refillProvedRow : OpenClaim := { program := "ytgiihjcpgjpkcaadoor", sum := "4fb922e176c3ae59761602322ce45f6d0d91d4429ede566749f8d5b8a4e141e4", func := "waterhour/waterhourlaw04.RefillProved", spec := "refillProved", inPlace := ["internal/abi.NoEscape", "internal/bytealg.MakeNoZero"], unfollowed := true, recurses := true, named := ["internal/strconv.uint64pow10", "math/bits.deBruijn32tab", "math/bits.deBruijn64tab"], apart := false, laid := [("math/bits.deBruijn32tab", laid_math_bits_deBruijn32tab), ("math/bits.deBruijn64tab", laid_math_bits_deBruijn64tab), ("internal/strconv.uint64pow10", laid_internal_strconv_uint64pow10)] }
def RefillProvedSaid : Prop := refillProvedRow.holds Tryd.pinned (OpenSpec.ofChange refillProvedSpec)

/-- ITS FALSE NEIGHBOUR: 'it returns false'. Refute it at one input. -/
def refillProvedWrong : ChangeSpec := { name := "refillProved", fn := fun _ => fun
  | [d1, d2, d3, d4] => { results := [.lit (.bool false)], args := [d1, d2, d3, d4] }
  | _ => none }
def RefillProvedWrongFalsely : Prop := refillProvedRow.holds Tryd.pinned (OpenSpec.ofChange refillProvedWrong)

/-- 'waterhourlaw04.RefillChains': WHATEVER THE INPUT: true; the input reads as it did. -/
def refillChainsSpec : ChangeSpec := { name := "refillChains", fn := fun _ => fun
  | [d1, d2, d3, d4] => { results := [.lit (.bool true)], args := [d1, d2, d3, d4] }
  | _ => none }
def refillChainsRow : OpenClaim := { program := "ytgiihjcpgjpkcaadoor", sum := "4fb922e176c3ae59761602322ce45f6d0d91d4429ede566749f8d5b8a4e141e4", func := "waterhour/waterhourlaw04.RefillChains", spec := "refillChains", inPlace := ["internal/abi.NoEscape", "internal/bytealg.MakeNoZero"], unfollowed := true, recurses := true, named := ["internal/strconv.uint64pow10", "math/bits.deBruijn32tab", "math/bits.deBruijn64tab"], apart := false, laid := [("math/bits.deBruijn32tab", laid_math_bits_deBruijn32tab), ("math/bits.deBruijn64tab", laid_math_bits_deBruijn64tab), ("internal/strconv.uint64pow10", laid_internal_strconv_uint64pow10)] }
def RefillChainsSaid : Prop := refillChainsRow.holds Tryd.pinned (OpenSpec.ofChange refillChainsSpec)

/-- ITS FALSE NEIGHBOUR: 'it returns false'. Refute it at one input. -/
def refillChainsWrong : ChangeSpec := { name := "refillChains", fn := fun _ => fun
  | [d1, d2, d3, d4] => { results := [.lit (.bool false)], args := [d1, d2, d3, d4] }
  | _ => none }
def RefillChainsWrongFalsely : Prop := refillChainsRow.holds Tryd.pinned (OpenSpec.ofChange refillChainsWrong)

/-- 'waterhourlaw04.RefillMoved': WHATEVER THE INPUT: true; the input reads as it did. -/
def refillMovedSpec : ChangeSpec := { name := "refillMoved", fn := fun _ => fun
  | [d1, d2, d3, d4, d5] => { results := [.lit (.bool true)], args := [d1, d2, d3, d4, d5] }
  | _ => none }
def refillMovedRow : OpenClaim := { program := "ytgiihjcpgjpkcaadoor", sum := "4fb922e176c3ae59761602322ce45f6d0d91d4429ede566749f8d5b8a4e141e4", func := "waterhour/waterhourlaw04.RefillMoved", spec := "refillMoved", inPlace := ["internal/abi.NoEscape", "internal/bytealg.MakeNoZero"], unfollowed := true, recurses := true, named := ["internal/strconv.uint64pow10", "math/bits.deBruijn32tab", "math/bits.deBruijn64tab"], apart := false, laid := [("math/bits.deBruijn32tab", laid_math_bits_deBruijn32tab), ("math/bits.deBruijn64tab", laid_math_bits_deBruijn64tab), ("internal/strconv.uint64pow10", laid_internal_strconv_uint64pow10)] }
def RefillMovedSaid : Prop := refillMovedRow.holds Tryd.pinned (OpenSpec.ofChange refillMovedSpec)

/-- ITS FALSE NEIGHBOUR: 'it returns false'. Refute it at one input. -/
def refillMovedWrong : ChangeSpec := { name := "refillMoved", fn := fun _ => fun
  | [d1, d2, d3, d4, d5] => { results := [.lit (.bool false)], args := [d1, d2, d3, d4, d5] }
  | _ => none }
def RefillMovedWrongFalsely : Prop := refillMovedRow.holds Tryd.pinned (OpenSpec.ofChange refillMovedWrong)

/-- 'waterhourlaw04.RefillTimes': WHATEVER THE INPUT: true; the input reads as it did. -/
def refillTimesSpec : ChangeSpec := { name := "refillTimes", fn := fun _ => fun
  | [d1, d2, d3, d4, d5] => { results := [.lit (.bool true)], args := [d1, d2, d3, d4, d5] }
  | _ => none }
def refillTimesRow : OpenClaim := { program := "ytgiihjcpgjpkcaadoor", sum := "4fb922e176c3ae59761602322ce45f6d0d91d4429ede566749f8d5b8a4e141e4", func := "waterhour/waterhourlaw04.RefillTimes", spec := "refillTimes", inPlace := ["internal/abi.NoEscape", "internal/bytealg.MakeNoZero"], unfollowed := true, recurses := true, named := ["internal/strconv.uint64pow10", "math/bits.deBruijn32tab", "math/bits.deBruijn64tab"], apart := false, laid := [("math/bits.deBruijn32tab", laid_math_bits_deBruijn32tab), ("math/bits.deBruijn64tab", laid_math_bits_deBruijn64tab), ("internal/strconv.uint64pow10", laid_internal_strconv_uint64pow10)] }
def RefillTimesSaid : Prop := refillTimesRow.holds Tryd.pinned (OpenSpec.ofChange refillTimesSpec)

/-- ITS FALSE NEIGHBOUR: 'it returns false'. Refute it at one input. -/
def refillTimesWrong : ChangeSpec := { name := "refillTimes", fn := fun _ => fun
  | [d1, d2, d3, d4, d5] => { results := [.lit (.bool false)], args := [d1, d2, d3, d4, d5] }
  | _ => none }
def RefillTimesWrongFalsely : Prop := refillTimesRow.holds Tryd.pinned (OpenSpec.ofChange refillTimesWrong)

/-- 'waterhourlaw04.RefillKnown': WHATEVER THE INPUT: true; the input reads as it did. -/
def refillKnownSpec : ChangeSpec := { name := "refillKnown", fn := fun _ => fun
  | [d1, d2, d3, d4, d5, d6] => { results := [.lit (.bool true)], args := [d1, d2, d3, d4, d5, d6] }
  | _ => none }
def refillKnownRow : OpenClaim := { program := "ytgiihjcpgjpkcaadoor", sum := "4fb922e176c3ae59761602322ce45f6d0d91d4429ede566749f8d5b8a4e141e4", func := "waterhour/waterhourlaw04.RefillKnown", spec := "refillKnown", inPlace := ["internal/abi.NoEscape", "internal/bytealg.MakeNoZero"], unfollowed := true, recurses := true, named := ["internal/strconv.uint64pow10", "math/bits.deBruijn32tab", "math/bits.deBruijn64tab"], apart := false, laid := [("math/bits.deBruijn32tab", laid_math_bits_deBruijn32tab), ("math/bits.deBruijn64tab", laid_math_bits_deBruijn64tab), ("internal/strconv.uint64pow10", laid_internal_strconv_uint64pow10)] }
def RefillKnownSaid : Prop := refillKnownRow.holds Tryd.pinned (OpenSpec.ofChange refillKnownSpec)

/-- ITS FALSE NEIGHBOUR: 'it returns false'. Refute it at one input. -/
def refillKnownWrong : ChangeSpec := { name := "refillKnown", fn := fun _ => fun
  | [d1, d2, d3, d4, d5, d6] => { results := [.lit (.bool false)], args := [d1, d2, d3, d4, d5, d6] }
  | _ => none }
def RefillKnownWrongFalsely : Prop := refillKnownRow.holds Tryd.pinned (OpenSpec.ofChange refillKnownWrong)

/-- 'waterhourlaw04.RefillPrefix': WHATEVER THE INPUT: true; the input reads as it did. -/
def refillPrefixSpec : ChangeSpec := { name := "refillPrefix", fn := fun _ => fun
  | [d1, d2, d3] => { results := [.lit (.bool true)], args := [d1, d2, d3] }
  | _ => none }
def refillPrefixRow : OpenClaim := { program := "ytgiihjcpgjpkcaadoor", sum := "4fb922e176c3ae59761602322ce45f6d0d91d4429ede566749f8d5b8a4e141e4", func := "waterhour/waterhourlaw04.RefillPrefix", spec := "refillPrefix", inPlace := ["internal/abi.NoEscape", "internal/bytealg.MakeNoZero"], unfollowed := true, recurses := true, named := ["internal/strconv.uint64pow10", "math/bits.deBruijn32tab", "math/bits.deBruijn64tab"], apart := false, laid := [("math/bits.deBruijn32tab", laid_math_bits_deBruijn32tab), ("math/bits.deBruijn64tab", laid_math_bits_deBruijn64tab), ("internal/strconv.uint64pow10", laid_internal_strconv_uint64pow10)] }
def RefillPrefixSaid : Prop := refillPrefixRow.holds Tryd.pinned (OpenSpec.ofChange refillPrefixSpec)

/-- ITS FALSE NEIGHBOUR: 'it returns false'. Refute it at one input. -/
def refillPrefixWrong : ChangeSpec := { name := "refillPrefix", fn := fun _ => fun
  | [d1, d2, d3] => { results := [.lit (.bool false)], args := [d1, d2, d3] }
  | _ => none }
def RefillPrefixWrongFalsely : Prop := refillPrefixRow.holds Tryd.pinned (OpenSpec.ofChange refillPrefixWrong)

/-- 'waterhourlaw04.RefillTruth': WHATEVER THE INPUT: true; the input reads as it did. -/
def refillTruthSpec : ChangeSpec := { name := "refillTruth", fn := fun _ => fun
  | [d1, d2, d3, d4, d5, d6, d7, d8] => { results := [.lit (.bool true)], args := [d1, d2, d3, d4, d5, d6, d7, d8] }
  | _ => none }
def refillTruthRow : OpenClaim := { program := "ytgiihjcpgjpkcaadoor", sum := "4fb922e176c3ae59761602322ce45f6d0d91d4429ede566749f8d5b8a4e141e4", func := "waterhour/waterhourlaw04.RefillTruth", spec := "refillTruth", inPlace := ["internal/abi.NoEscape", "internal/bytealg.MakeNoZero"], unfollowed := true, recurses := true, named := ["internal/strconv.uint64pow10", "math/bits.deBruijn32tab", "math/bits.deBruijn64tab"], apart := false, laid := [("math/bits.deBruijn32tab", laid_math_bits_deBruijn32tab), ("math/bits.deBruijn64tab", laid_math_bits_deBruijn64tab), ("internal/strconv.uint64pow10", laid_internal_strconv_uint64pow10)] }
def RefillTruthSaid : Prop := refillTruthRow.holds Tryd.pinned (OpenSpec.ofChange refillTruthSpec)

/-- ITS FALSE NEIGHBOUR: 'it returns false'. Refute it at one input. -/
def refillTruthWrong : ChangeSpec := { name := "refillTruth", fn := fun _ => fun
  | [d1, d2, d3, d4, d5, d6, d7, d8] => { results := [.lit (.bool false)], args := [d1, d2, d3, d4, d5, d6, d7, d8] }
  | _ => none }
def RefillTruthWrongFalsely : Prop := refillTruthRow.holds Tryd.pinned (OpenSpec.ofChange refillTruthWrong)

/-- 'waterhourlaw04.RefillDays': WHATEVER THE INPUT: true; the input reads as it did. -/
def refillDaysSpec : ChangeSpec := { name := "refillDays", fn := fun _ => fun
  | [d1, d2, d3, d4] => { results := [.lit (.bool true)], args := [d1, d2, d3, d4] }
  | _ => none }
def refillDaysRow : OpenClaim := { program := "ytgiihjcpgjpkcaadoor", sum := "4fb922e176c3ae59761602322ce45f6d0d91d4429ede566749f8d5b8a4e141e4", func := "waterhour/waterhourlaw04.RefillDays", spec := "refillDays", inPlace := ["internal/abi.NoEscape", "internal/bytealg.MakeNoZero"], unfollowed := true, recurses := true, named := ["internal/strconv.uint64pow10", "math/bits.deBruijn32tab", "math/bits.deBruijn64tab"], apart := false, laid := [("math/bits.deBruijn32tab", laid_math_bits_deBruijn32tab), ("math/bits.deBruijn64tab", laid_math_bits_deBruijn64tab), ("internal/strconv.uint64pow10", laid_internal_strconv_uint64pow10)] }
def RefillDaysSaid : Prop := refillDaysRow.holds Tryd.pinned (OpenSpec.ofChange refillDaysSpec)

/-- ITS FALSE NEIGHBOUR: 'it returns false'. Refute it at one input. -/
def refillDaysWrong : ChangeSpec := { name := "refillDays", fn := fun _ => fun
  | [d1, d2, d3, d4] => { results := [.lit (.bool false)], args := [d1, d2, d3, d4] }
  | _ => none }
def RefillDaysWrongFalsely : Prop := refillDaysRow.holds Tryd.pinned (OpenSpec.ofChange refillDaysWrong)

/- THE SECOND FORM. 'bulk': how many values and letters a reading holds, each counted each time it is reached (what is shared counts as often as it is met; a slice's spare places count too). A statement '..UptoSaid' is the law's where the arguments, and the package variables that the reading takes, are together of bulk at most 1048576: NARROWER than '..Said'. Prove '..Said' where nothing that the law and all that it calls make is longer than what came in: it says more and counts as full. Else prove '..UptoSaid'. A law counts once. -/
mutual
def uptoBulk {H : Type} : DataW H → Nat
  | .lit (.string bytes) => bytes.length + 1
  | .lit _ => 1
  | .nil => 1
  | .ptr d => uptoBulk d + 1
  | .slice elems spare => uptoBulkAll elems + uptoBulkAll spare + 1
  | .agg parts => uptoBulkAll parts + 1
  | .iface _ d => uptoBulk d + 1
  | .map entries => uptoBulkEntries entries + 1
  | .held _ => 1
def uptoBulkAll {H : Type} : List (DataW H) → Nat
  | [] => 0
  | d :: r => uptoBulk d + uptoBulkAll r
def uptoBulkEntries {H : Type} : List (Lit × DataW H) → Nat
  | [] => 0
  | x :: r => uptoBulkEntry x + uptoBulkEntries r
def uptoBulkEntry {H : Type} : Lit × DataW H → Nat
  | (.string bytes, d) => bytes.length + uptoBulk d + 1
  | (_, d) => uptoBulk d + 1
 end
def uptoSmall : (H : Type) → List (DataW H) → Bool := fun _ ds => decide (uptoBulkAll ds ≤ 1048576)
def OpenSpec.upto (s : _root_.Go.ChangeSpec) : _root_.Go.OpenSpec := { _root_.Go.OpenSpec.ofChange s with cond := some uptoSmall }

/-- 'waterhourlaw04.RefillAttains', WHERE WHAT IT READS IS OF BULK AT MOST 1048576: true; the input reads as it did. -/
def refillAttainsUptoRow : OpenClaim := { program := "ytgiihjcpgjpkcaadoor", sum := "4fb922e176c3ae59761602322ce45f6d0d91d4429ede566749f8d5b8a4e141e4", func := "waterhour/waterhourlaw04.RefillAttains", spec := "refillAttains", inPlace := ["internal/abi.NoEscape", "internal/bytealg.MakeNoZero"], unfollowed := true, recurses := true, named := ["internal/strconv.uint64pow10", "math/bits.deBruijn32tab", "math/bits.deBruijn64tab"], apart := false, laid := [("math/bits.deBruijn32tab", laid_math_bits_deBruijn32tab), ("math/bits.deBruijn64tab", laid_math_bits_deBruijn64tab), ("internal/strconv.uint64pow10", laid_internal_strconv_uint64pow10)], narrowed := true }
def RefillAttainsUptoSaid : Prop := refillAttainsUptoRow.holds Tryd.pinned (OpenSpec.upto refillAttainsSpec)

/-- 'waterhourlaw04.RefillClashes', WHERE WHAT IT READS IS OF BULK AT MOST 1048576: true; the input reads as it did. -/
def refillClashesUptoRow : OpenClaim := { program := "ytgiihjcpgjpkcaadoor", sum := "4fb922e176c3ae59761602322ce45f6d0d91d4429ede566749f8d5b8a4e141e4", func := "waterhour/waterhourlaw04.RefillClashes", spec := "refillClashes", inPlace := ["internal/abi.NoEscape", "internal/bytealg.MakeNoZero"], unfollowed := true, recurses := true, named := ["internal/strconv.uint64pow10", "math/bits.deBruijn32tab", "math/bits.deBruijn64tab"], apart := false, laid := [("math/bits.deBruijn32tab", laid_math_bits_deBruijn32tab), ("math/bits.deBruijn64tab", laid_math_bits_deBruijn64tab), ("internal/strconv.uint64pow10", laid_internal_strconv_uint64pow10)], narrowed := true }
def RefillClashesUptoSaid : Prop := refillClashesUptoRow.holds Tryd.pinned (OpenSpec.upto refillClashesSpec)

/-- 'waterhourlaw04.RefillProofs', WHERE WHAT IT READS IS OF BULK AT MOST 1048576: true; the input reads as it did. -/
def refillProofsUptoRow : OpenClaim := { program := "ytgiihjcpgjpkcaadoor", sum := "4fb922e176c3ae59761602322ce45f6d0d91d4429ede566749f8d5b8a4e141e4", func := "waterhour/waterhourlaw04.RefillProofs", spec := "refillProofs", inPlace := ["internal/abi.NoEscape", "internal/bytealg.MakeNoZero"], unfollowed := true, recurses := true, named := ["internal/strconv.uint64pow10", "math/bits.deBruijn32tab", "math/bits.deBruijn64tab"], apart := false, laid := [("math/bits.deBruijn32tab", laid_math_bits_deBruijn32tab), ("math/bits.deBruijn64tab", laid_math_bits_deBruijn64tab), ("internal/strconv.uint64pow10", laid_internal_strconv_uint64pow10)], narrowed := true }
def RefillProofsUptoSaid : Prop := refillProofsUptoRow.holds Tryd.pinned (OpenSpec.upto refillProofsSpec)

/-- 'waterhourlaw04.RefillClosed', WHERE WHAT IT READS IS OF BULK AT MOST 1048576: true; the input reads as it did. -/
def refillClosedUptoRow : OpenClaim := { program := "ytgiihjcpgjpkcaadoor", sum := "4fb922e176c3ae59761602322ce45f6d0d91d4429ede566749f8d5b8a4e141e4", func := "waterhour/waterhourlaw04.RefillClosed", spec := "refillClosed", inPlace := ["internal/abi.NoEscape", "internal/bytealg.MakeNoZero"], unfollowed := true, recurses := true, named := ["internal/strconv.uint64pow10", "math/bits.deBruijn32tab", "math/bits.deBruijn64tab"], apart := false, laid := [("math/bits.deBruijn32tab", laid_math_bits_deBruijn32tab), ("math/bits.deBruijn64tab", laid_math_bits_deBruijn64tab), ("internal/strconv.uint64pow10", laid_internal_strconv_uint64pow10)], narrowed := true }
def RefillClosedUptoSaid : Prop := refillClosedUptoRow.holds Tryd.pinned (OpenSpec.upto refillClosedSpec)

/-- 'waterhourlaw04.RefillWithout', WHERE WHAT IT READS IS OF BULK AT MOST 1048576: true; the input reads as it did. -/
def refillWithoutUptoRow : OpenClaim := { program := "ytgiihjcpgjpkcaadoor", sum := "4fb922e176c3ae59761602322ce45f6d0d91d4429ede566749f8d5b8a4e141e4", func := "waterhour/waterhourlaw04.RefillWithout", spec := "refillWithout", inPlace := ["internal/abi.NoEscape", "internal/bytealg.MakeNoZero"], unfollowed := true, recurses := true, named := ["internal/strconv.uint64pow10", "math/bits.deBruijn32tab", "math/bits.deBruijn64tab"], apart := false, laid := [("math/bits.deBruijn32tab", laid_math_bits_deBruijn32tab), ("math/bits.deBruijn64tab", laid_math_bits_deBruijn64tab), ("internal/strconv.uint64pow10", laid_internal_strconv_uint64pow10)], narrowed := true }
def RefillWithoutUptoSaid : Prop := refillWithoutUptoRow.holds Tryd.pinned (OpenSpec.upto refillWithoutSpec)

/-- 'waterhourlaw04.RefillAll', WHERE WHAT IT READS IS OF BULK AT MOST 1048576: true; the input reads as it did. -/
def refillAllUptoRow : OpenClaim := { program := "ytgiihjcpgjpkcaadoor", sum := "4fb922e176c3ae59761602322ce45f6d0d91d4429ede566749f8d5b8a4e141e4", func := "waterhour/waterhourlaw04.RefillAll", spec := "refillAll", inPlace := ["internal/abi.NoEscape", "internal/bytealg.MakeNoZero"], unfollowed := true, recurses := true, named := ["internal/strconv.uint64pow10", "math/bits.deBruijn32tab", "math/bits.deBruijn64tab"], apart := false, laid := [("math/bits.deBruijn32tab", laid_math_bits_deBruijn32tab), ("math/bits.deBruijn64tab", laid_math_bits_deBruijn64tab), ("internal/strconv.uint64pow10", laid_internal_strconv_uint64pow10)], narrowed := true }
def RefillAllUptoSaid : Prop := refillAllUptoRow.holds Tryd.pinned (OpenSpec.upto refillAllSpec)

/-- 'waterhourlaw04.RefillAttained', WHERE WHAT IT READS IS OF BULK AT MOST 1048576: true; the input reads as it did. -/
def refillAttainedUptoRow : OpenClaim := { program := "ytgiihjcpgjpkcaadoor", sum := "4fb922e176c3ae59761602322ce45f6d0d91d4429ede566749f8d5b8a4e141e4", func := "waterhour/waterhourlaw04.RefillAttained", spec := "refillAttained", inPlace := ["internal/abi.NoEscape", "internal/bytealg.MakeNoZero"], unfollowed := true, recurses := true, named := ["internal/strconv.uint64pow10", "math/bits.deBruijn32tab", "math/bits.deBruijn64tab"], apart := false, laid := [("math/bits.deBruijn32tab", laid_math_bits_deBruijn32tab), ("math/bits.deBruijn64tab", laid_math_bits_deBruijn64tab), ("internal/strconv.uint64pow10", laid_internal_strconv_uint64pow10)], narrowed := true }
def RefillAttainedUptoSaid : Prop := refillAttainedUptoRow.holds Tryd.pinned (OpenSpec.upto refillAttainedSpec)

/-- 'waterhourlaw04.RefillProved', WHERE WHAT IT READS IS OF BULK AT MOST 1048576: true; the input reads as it did. -/
def refillProvedUptoRow : OpenClaim := { program := "ytgiihjcpgjpkcaadoor", sum := "4fb922e176c3ae59761602322ce45f6d0d91d4429ede566749f8d5b8a4e141e4", func := "waterhour/waterhourlaw04.RefillProved", spec := "refillProved", inPlace := ["internal/abi.NoEscape", "internal/bytealg.MakeNoZero"], unfollowed := true, recurses := true, named := ["internal/strconv.uint64pow10", "math/bits.deBruijn32tab", "math/bits.deBruijn64tab"], apart := false, laid := [("math/bits.deBruijn32tab", laid_math_bits_deBruijn32tab), ("math/bits.deBruijn64tab", laid_math_bits_deBruijn64tab), ("internal/strconv.uint64pow10", laid_internal_strconv_uint64pow10)], narrowed := true }
def RefillProvedUptoSaid : Prop := refillProvedUptoRow.holds Tryd.pinned (OpenSpec.upto refillProvedSpec)

/-- 'waterhourlaw04.RefillChains', WHERE WHAT IT READS IS OF BULK AT MOST 1048576: true; the input reads as it did. -/
def refillChainsUptoRow : OpenClaim := { program := "ytgiihjcpgjpkcaadoor", sum := "4fb922e176c3ae59761602322ce45f6d0d91d4429ede566749f8d5b8a4e141e4", func := "waterhour/waterhourlaw04.RefillChains", spec := "refillChains", inPlace := ["internal/abi.NoEscape", "internal/bytealg.MakeNoZero"], unfollowed := true, recurses := true, named := ["internal/strconv.uint64pow10", "math/bits.deBruijn32tab", "math/bits.deBruijn64tab"], apart := false, laid := [("math/bits.deBruijn32tab", laid_math_bits_deBruijn32tab), ("math/bits.deBruijn64tab", laid_math_bits_deBruijn64tab), ("internal/strconv.uint64pow10", laid_internal_strconv_uint64pow10)], narrowed := true }
def RefillChainsUptoSaid : Prop := refillChainsUptoRow.holds Tryd.pinned (OpenSpec.upto refillChainsSpec)

/-- 'waterhourlaw04.RefillMoved', WHERE WHAT IT READS IS OF BULK AT MOST 1048576: true; the input reads as it did. -/
def refillMovedUptoRow : OpenClaim := { program := "ytgiihjcpgjpkcaadoor", sum := "4fb922e176c3ae59761602322ce45f6d0d91d4429ede566749f8d5b8a4e141e4", func := "waterhour/waterhourlaw04.RefillMoved", spec := "refillMoved", inPlace := ["internal/abi.NoEscape", "internal/bytealg.MakeNoZero"], unfollowed := true, recurses := true, named := ["internal/strconv.uint64pow10", "math/bits.deBruijn32tab", "math/bits.deBruijn64tab"], apart := false, laid := [("math/bits.deBruijn32tab", laid_math_bits_deBruijn32tab), ("math/bits.deBruijn64tab", laid_math_bits_deBruijn64tab), ("internal/strconv.uint64pow10", laid_internal_strconv_uint64pow10)], narrowed := true }
def RefillMovedUptoSaid : Prop := refillMovedUptoRow.holds Tryd.pinned (OpenSpec.upto refillMovedSpec)

/-- 'waterhourlaw04.RefillTimes', WHERE WHAT IT READS IS OF BULK AT MOST 1048576: true; the input reads as it did. -/
def refillTimesUptoRow : OpenClaim := { program := "ytgiihjcpgjpkcaadoor", sum := "4fb922e176c3ae59761602322ce45f6d0d91d4429ede566749f8d5b8a4e141e4", func := "waterhour/waterhourlaw04.RefillTimes", spec := "refillTimes", inPlace := ["internal/abi.NoEscape", "internal/bytealg.MakeNoZero"], unfollowed := true, recurses := true, named := ["internal/strconv.uint64pow10", "math/bits.deBruijn32tab", "math/bits.deBruijn64tab"], apart := false, laid := [("math/bits.deBruijn32tab", laid_math_bits_deBruijn32tab), ("math/bits.deBruijn64tab", laid_math_bits_deBruijn64tab), ("internal/strconv.uint64pow10", laid_internal_strconv_uint64pow10)], narrowed := true }
def RefillTimesUptoSaid : Prop := refillTimesUptoRow.holds Tryd.pinned (OpenSpec.upto refillTimesSpec)

/-- 'waterhourlaw04.RefillKnown', WHERE WHAT IT READS IS OF BULK AT MOST 1048576: true; the input reads as it did. -/
def refillKnownUptoRow : OpenClaim := { program := "ytgiihjcpgjpkcaadoor", sum := "4fb922e176c3ae59761602322ce45f6d0d91d4429ede566749f8d5b8a4e141e4", func := "waterhour/waterhourlaw04.RefillKnown", spec := "refillKnown", inPlace := ["internal/abi.NoEscape", "internal/bytealg.MakeNoZero"], unfollowed := true, recurses := true, named := ["internal/strconv.uint64pow10", "math/bits.deBruijn32tab", "math/bits.deBruijn64tab"], apart := false, laid := [("math/bits.deBruijn32tab", laid_math_bits_deBruijn32tab), ("math/bits.deBruijn64tab", laid_math_bits_deBruijn64tab), ("internal/strconv.uint64pow10", laid_internal_strconv_uint64pow10)], narrowed := true }
def RefillKnownUptoSaid : Prop := refillKnownUptoRow.holds Tryd.pinned (OpenSpec.upto refillKnownSpec)

/-- 'waterhourlaw04.RefillPrefix', WHERE WHAT IT READS IS OF BULK AT MOST 1048576: true; the input reads as it did. -/
def refillPrefixUptoRow : OpenClaim := { program := "ytgiihjcpgjpkcaadoor", sum := "4fb922e176c3ae59761602322ce45f6d0d91d4429ede566749f8d5b8a4e141e4", func := "waterhour/waterhourlaw04.RefillPrefix", spec := "refillPrefix", inPlace := ["internal/abi.NoEscape", "internal/bytealg.MakeNoZero"], unfollowed := true, recurses := true, named := ["internal/strconv.uint64pow10", "math/bits.deBruijn32tab", "math/bits.deBruijn64tab"], apart := false, laid := [("math/bits.deBruijn32tab", laid_math_bits_deBruijn32tab), ("math/bits.deBruijn64tab", laid_math_bits_deBruijn64tab), ("internal/strconv.uint64pow10", laid_internal_strconv_uint64pow10)], narrowed := true }
def RefillPrefixUptoSaid : Prop := refillPrefixUptoRow.holds Tryd.pinned (OpenSpec.upto refillPrefixSpec)

/-- 'waterhourlaw04.RefillTruth', WHERE WHAT IT READS IS OF BULK AT MOST 1048576: true; the input reads as it did. -/
def refillTruthUptoRow : OpenClaim := { program := "ytgiihjcpgjpkcaadoor", sum := "4fb922e176c3ae59761602322ce45f6d0d91d4429ede566749f8d5b8a4e141e4", func := "waterhour/waterhourlaw04.RefillTruth", spec := "refillTruth", inPlace := ["internal/abi.NoEscape", "internal/bytealg.MakeNoZero"], unfollowed := true, recurses := true, named := ["internal/strconv.uint64pow10", "math/bits.deBruijn32tab", "math/bits.deBruijn64tab"], apart := false, laid := [("math/bits.deBruijn32tab", laid_math_bits_deBruijn32tab), ("math/bits.deBruijn64tab", laid_math_bits_deBruijn64tab), ("internal/strconv.uint64pow10", laid_internal_strconv_uint64pow10)], narrowed := true }
def RefillTruthUptoSaid : Prop := refillTruthUptoRow.holds Tryd.pinned (OpenSpec.upto refillTruthSpec)

/-- 'waterhourlaw04.RefillDays', WHERE WHAT IT READS IS OF BULK AT MOST 1048576: true; the input reads as it did. -/
def refillDaysUptoRow : OpenClaim := { program := "ytgiihjcpgjpkcaadoor", sum := "4fb922e176c3ae59761602322ce45f6d0d91d4429ede566749f8d5b8a4e141e4", func := "waterhour/waterhourlaw04.RefillDays", spec := "refillDays", inPlace := ["internal/abi.NoEscape", "internal/bytealg.MakeNoZero"], unfollowed := true, recurses := true, named := ["internal/strconv.uint64pow10", "math/bits.deBruijn32tab", "math/bits.deBruijn64tab"], apart := false, laid := [("math/bits.deBruijn32tab", laid_math_bits_deBruijn32tab), ("math/bits.deBruijn64tab", laid_math_bits_deBruijn64tab), ("internal/strconv.uint64pow10", laid_internal_strconv_uint64pow10)], narrowed := true }
def RefillDaysUptoSaid : Prop := refillDaysUptoRow.holds Tryd.pinned (OpenSpec.upto refillDaysSpec)

end Rows
end Go.Proofs.YtgiihjcpgjpkcaaDoor
