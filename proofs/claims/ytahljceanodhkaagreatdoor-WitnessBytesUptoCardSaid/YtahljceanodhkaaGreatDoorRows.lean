/-
  NARROWER THAN 'FOR EVERY INPUT', by the rows' own cells (each row's printed sentence says how): HalveSilence: laid · HalveClone: laid · HalveNil: laid · WitnessDigests: laid · WitnessStays: laid · WitnessTrace: laid · WitnessSmall: laid · HalveActs: laid · HalveTeller: laid · WitnessBytes: laid.
  DERIVED. THE GIVEN ROWS OF THIS SEAT. 10 by the template 'for every input the law returns true; each argument reads behind the call as it read before'; 0 by the template 'total and deterministic' (their statements: YtahljceanodhkaaGreatDoorTotals.lean).
  GIVEN WITH THE SEED: the statements are not yours to turn. If you find one false, say at which input.
  Laid BY PROGRAM, IN A SANDBOX (cutbox-rows.mjs): the forced cells as the released guide's own fill.sh prints them over the translation 024eabc1bdcbbae0… (all of the seat's roots in one cut). By AI agents, Wed Nov 11 2026. No macro, syntax, notation, axiom, sorry.
-/
import Derived.Test.YtahljceanodhkaaGreatDoorChecked
import GoSem.Claim
import GoSem.ClaimJoined
import GoSem.ClaimMapViews
import Derived.JoinedTies
import Derived.KernelRfl
namespace Go.Proofs.YtahljceanodhkaaGreatDoor
/- THE CELL 'sum', in the pinned program and in every row, IS THE sha256 OF THE DUMP (.gsa) THAT YtahljceanodhkaaGreatDoorProg.lean LOADS. Nothing in Lean hashes anything: it is a label: what it is worth is what the hold of that sum in a sandbox is worth. -/
noncomputable def Tryz.pinned : Pinned := { name := "ytahljceanodhkaagreatdoor", sum := "024eabc1bdcbbae06d67dacaf75a14e4be416a6fd3ec23d5fc2518a0e46a7b66", checked := Tryz.checked }
namespace Rows
def none {H : Type} : Left H := { results := [], args := [] }

/- WHAT THE LISTED PACKAGE-LEVEL VARIABLES READ AS WHEN THE CALL BEGINS. Each datum BY PROGRAM (the guide's laid-datum.mjs) off the statement by which the dump's own 'gosem.cut.vars' lays the variable. In a bare row this is a premise. The card (YtahljceanodhkaaGreatDoorCards.lean) ties it to the program's text. -/
def laid_math_bits_deBruijn32tab {H : Type} : DataW H := .agg [.lit (.int .u8 0), .lit (.int .u8 1), .lit (.int .u8 28), .lit (.int .u8 2), .lit (.int .u8 29), .lit (.int .u8 14), .lit (.int .u8 24), .lit (.int .u8 3), .lit (.int .u8 30), .lit (.int .u8 22), .lit (.int .u8 20), .lit (.int .u8 15), .lit (.int .u8 25), .lit (.int .u8 17), .lit (.int .u8 4), .lit (.int .u8 8), .lit (.int .u8 31), .lit (.int .u8 27), .lit (.int .u8 13), .lit (.int .u8 23), .lit (.int .u8 21), .lit (.int .u8 19), .lit (.int .u8 16), .lit (.int .u8 7), .lit (.int .u8 26), .lit (.int .u8 12), .lit (.int .u8 18), .lit (.int .u8 6), .lit (.int .u8 11), .lit (.int .u8 5), .lit (.int .u8 10), .lit (.int .u8 9)]
def laid_math_bits_deBruijn64tab {H : Type} : DataW H := .agg [.lit (.int .u8 0), .lit (.int .u8 1), .lit (.int .u8 56), .lit (.int .u8 2), .lit (.int .u8 57), .lit (.int .u8 49), .lit (.int .u8 28), .lit (.int .u8 3), .lit (.int .u8 61), .lit (.int .u8 58), .lit (.int .u8 42), .lit (.int .u8 50), .lit (.int .u8 38), .lit (.int .u8 29), .lit (.int .u8 17), .lit (.int .u8 4), .lit (.int .u8 62), .lit (.int .u8 47), .lit (.int .u8 59), .lit (.int .u8 36), .lit (.int .u8 45), .lit (.int .u8 43), .lit (.int .u8 51), .lit (.int .u8 22), .lit (.int .u8 53), .lit (.int .u8 39), .lit (.int .u8 33), .lit (.int .u8 30), .lit (.int .u8 24), .lit (.int .u8 18), .lit (.int .u8 12), .lit (.int .u8 5), .lit (.int .u8 63), .lit (.int .u8 55), .lit (.int .u8 48), .lit (.int .u8 27), .lit (.int .u8 60), .lit (.int .u8 41), .lit (.int .u8 37), .lit (.int .u8 16), .lit (.int .u8 46), .lit (.int .u8 35), .lit (.int .u8 44), .lit (.int .u8 21), .lit (.int .u8 52), .lit (.int .u8 32), .lit (.int .u8 23), .lit (.int .u8 11), .lit (.int .u8 54), .lit (.int .u8 26), .lit (.int .u8 40), .lit (.int .u8 15), .lit (.int .u8 34), .lit (.int .u8 20), .lit (.int .u8 31), .lit (.int .u8 10), .lit (.int .u8 25), .lit (.int .u8 14), .lit (.int .u8 19), .lit (.int .u8 9), .lit (.int .u8 13), .lit (.int .u8 8), .lit (.int .u8 7), .lit (.int .u8 6)]
def laid_internal_strconv_uint64pow10 {H : Type} : DataW H := .agg [.lit (.int .u64 1), .lit (.int .u64 10), .lit (.int .u64 100), .lit (.int .u64 1000), .lit (.int .u64 10000), .lit (.int .u64 100000), .lit (.int .u64 1000000), .lit (.int .u64 10000000), .lit (.int .u64 100000000), .lit (.int .u64 1000000000), .lit (.int .u64 10000000000), .lit (.int .u64 100000000000), .lit (.int .u64 1000000000000), .lit (.int .u64 10000000000000), .lit (.int .u64 100000000000000), .lit (.int .u64 1000000000000000), .lit (.int .u64 10000000000000000), .lit (.int .u64 100000000000000000), .lit (.int .u64 1000000000000000000), .lit (.int .u64 10000000000000000000)]
def laid_baize_code_operations {H : Type} : DataW H := .agg [.agg [.lit (.string [104, 97, 108, 116]), .lit (.string [110])], .agg [.lit (.string [115, 101, 116]), .lit (.string [119, 110])], .agg [.lit (.string [109, 111, 118, 101]), .lit (.string [119, 119])], .agg [.lit (.string [97, 100, 100]), .lit (.string [119, 119, 119])], .agg [.lit (.string [115, 117, 98]), .lit (.string [119, 119, 119])], .agg [.lit (.string [109, 117, 108]), .lit (.string [119, 119, 119])], .agg [.lit (.string [100, 105, 118]), .lit (.string [119, 119, 119])], .agg [.lit (.string [114, 101, 109]), .lit (.string [119, 119, 119])], .agg [.lit (.string [101, 113]), .lit (.string [119, 119, 119])], .agg [.lit (.string [110, 101]), .lit (.string [119, 119, 119])], .agg [.lit (.string [108, 116]), .lit (.string [119, 119, 119])], .agg [.lit (.string [108, 101]), .lit (.string [119, 119, 119])], .agg [.lit (.string [97, 110, 100]), .lit (.string [119, 119, 119])], .agg [.lit (.string [111, 114]), .lit (.string [119, 119, 119])], .agg [.lit (.string [110, 111, 116]), .lit (.string [119, 119])], .agg [.lit (.string [108, 111, 97, 100]), .lit (.string [119, 119, 119])], .agg [.lit (.string [115, 116, 111, 114, 101]), .lit (.string [119, 119, 119])], .agg [.lit (.string [99, 117, 116]), .lit (.string [119, 110, 110])], .agg [.lit (.string [119, 105, 116, 104, 105, 110]), .lit (.string [119, 119, 110])], .agg [.lit (.string [106, 117, 109, 112]), .lit (.string [112])], .agg [.lit (.string [106, 122]), .lit (.string [112, 119])], .agg [.lit (.string [106, 110, 122]), .lit (.string [112, 119])]]

/-- 'baizelaw23.HalveSilence': WHATEVER THE INPUT: true; the input reads as it did. -/
def halveSilenceSpec : ChangeSpec := { name := "halveSilence", fn := fun _ => fun
  | [d1, d2, d3] => { results := [.lit (.bool true)], args := [d1, d2, d3] }
  | _ => none }
def halveSilenceRow : OpenClaim := { program := "ytahljceanodhkaagreatdoor", sum := "024eabc1bdcbbae06d67dacaf75a14e4be416a6fd3ec23d5fc2518a0e46a7b66", func := "baize/baizelaw23.HalveSilence", spec := "halveSilence", unfollowed := true, recurses := true, named := ["internal/strconv.uint64pow10", "math/bits.deBruijn32tab", "math/bits.deBruijn64tab", "baize/code.operations"], apart := false, laid := [("math/bits.deBruijn32tab", laid_math_bits_deBruijn32tab), ("math/bits.deBruijn64tab", laid_math_bits_deBruijn64tab), ("internal/strconv.uint64pow10", laid_internal_strconv_uint64pow10), ("baize/code.operations", laid_baize_code_operations)] }
def HalveSilenceSaid : Prop := halveSilenceRow.holds Tryz.pinned (OpenSpec.ofChange halveSilenceSpec)

/-- ITS FALSE NEIGHBOUR: 'it returns false'. Refute it at one input. -/
def halveSilenceWrong : ChangeSpec := { name := "halveSilence", fn := fun _ => fun
  | [d1, d2, d3] => { results := [.lit (.bool false)], args := [d1, d2, d3] }
  | _ => none }
def HalveSilenceWrongFalsely : Prop := halveSilenceRow.holds Tryz.pinned (OpenSpec.ofChange halveSilenceWrong)

/-- 'baizelaw23.HalveClone': WHATEVER THE INPUT: true; the input reads as it did. -/
def halveCloneSpec : ChangeSpec := { name := "halveClone", fn := fun _ => fun
  | [d1, d2, d3] => { results := [.lit (.bool true)], args := [d1, d2, d3] }
  | _ => none }
def halveCloneRow : OpenClaim := { program := "ytahljceanodhkaagreatdoor", sum := "024eabc1bdcbbae06d67dacaf75a14e4be416a6fd3ec23d5fc2518a0e46a7b66", func := "baize/baizelaw23.HalveClone", spec := "halveClone", unfollowed := true, recurses := true, named := ["internal/strconv.uint64pow10", "math/bits.deBruijn32tab", "math/bits.deBruijn64tab", "baize/code.operations"], apart := false, laid := [("math/bits.deBruijn32tab", laid_math_bits_deBruijn32tab), ("math/bits.deBruijn64tab", laid_math_bits_deBruijn64tab), ("internal/strconv.uint64pow10", laid_internal_strconv_uint64pow10), ("baize/code.operations", laid_baize_code_operations)] }
def HalveCloneSaid : Prop := halveCloneRow.holds Tryz.pinned (OpenSpec.ofChange halveCloneSpec)

/-- ITS FALSE NEIGHBOUR: 'it returns false'. Refute it at one input. -/
def halveCloneWrong : ChangeSpec := { name := "halveClone", fn := fun _ => fun
  | [d1, d2, d3] => { results := [.lit (.bool false)], args := [d1, d2, d3] }
  | _ => none }
def HalveCloneWrongFalsely : Prop := halveCloneRow.holds Tryz.pinned (OpenSpec.ofChange halveCloneWrong)

/-- 'baizelaw23.HalveNil': WHATEVER THE INPUT: true; the input reads as it did. -/
def halveNilSpec : ChangeSpec := { name := "halveNil", fn := fun _ => fun
  | [d1, d2, d3] => { results := [.lit (.bool true)], args := [d1, d2, d3] }
  | _ => none }
def halveNilRow : OpenClaim := { program := "ytahljceanodhkaagreatdoor", sum := "024eabc1bdcbbae06d67dacaf75a14e4be416a6fd3ec23d5fc2518a0e46a7b66", func := "baize/baizelaw23.HalveNil", spec := "halveNil", unfollowed := true, recurses := true, named := ["internal/strconv.uint64pow10", "math/bits.deBruijn32tab", "math/bits.deBruijn64tab", "baize/code.operations"], apart := false, laid := [("math/bits.deBruijn32tab", laid_math_bits_deBruijn32tab), ("math/bits.deBruijn64tab", laid_math_bits_deBruijn64tab), ("internal/strconv.uint64pow10", laid_internal_strconv_uint64pow10), ("baize/code.operations", laid_baize_code_operations)] }
def HalveNilSaid : Prop := halveNilRow.holds Tryz.pinned (OpenSpec.ofChange halveNilSpec)

/-- ITS FALSE NEIGHBOUR: 'it returns false'. Refute it at one input. -/
def halveNilWrong : ChangeSpec := { name := "halveNil", fn := fun _ => fun
  | [d1, d2, d3] => { results := [.lit (.bool false)], args := [d1, d2, d3] }
  | _ => none }
def HalveNilWrongFalsely : Prop := halveNilRow.holds Tryz.pinned (OpenSpec.ofChange halveNilWrong)

/-- 'baizelaw22.WitnessDigests': WHATEVER THE INPUT: true; the input reads as it did. -/
def witnessDigestsSpec : ChangeSpec := { name := "witnessDigests", fn := fun _ => fun
  | [d1, d2] => { results := [.lit (.bool true)], args := [d1, d2] }
  | _ => none }
def witnessDigestsRow : OpenClaim := { program := "ytahljceanodhkaagreatdoor", sum := "024eabc1bdcbbae06d67dacaf75a14e4be416a6fd3ec23d5fc2518a0e46a7b66", func := "baize/baizelaw22.WitnessDigests", spec := "witnessDigests", unfollowed := true, recurses := true, named := ["internal/strconv.uint64pow10", "math/bits.deBruijn32tab", "math/bits.deBruijn64tab", "baize/code.operations"], apart := false, laid := [("math/bits.deBruijn32tab", laid_math_bits_deBruijn32tab), ("math/bits.deBruijn64tab", laid_math_bits_deBruijn64tab), ("internal/strconv.uint64pow10", laid_internal_strconv_uint64pow10), ("baize/code.operations", laid_baize_code_operations)] }
def WitnessDigestsSaid : Prop := witnessDigestsRow.holds Tryz.pinned (OpenSpec.ofChange witnessDigestsSpec)

/-- ITS FALSE NEIGHBOUR: 'it returns false'. Refute it at one input. -/
def witnessDigestsWrong : ChangeSpec := { name := "witnessDigests", fn := fun _ => fun
  | [d1, d2] => { results := [.lit (.bool false)], args := [d1, d2] }
  | _ => none }
def WitnessDigestsWrongFalsely : Prop := witnessDigestsRow.holds Tryz.pinned (OpenSpec.ofChange witnessDigestsWrong)

/-- 'baizelaw22.WitnessStays': WHATEVER THE INPUT: true; the input reads as it did. -/
def witnessStaysSpec : ChangeSpec := { name := "witnessStays", fn := fun _ => fun
  | [d1, d2] => { results := [.lit (.bool true)], args := [d1, d2] }
  | _ => none }
def witnessStaysRow : OpenClaim := { program := "ytahljceanodhkaagreatdoor", sum := "024eabc1bdcbbae06d67dacaf75a14e4be416a6fd3ec23d5fc2518a0e46a7b66", func := "baize/baizelaw22.WitnessStays", spec := "witnessStays", unfollowed := true, recurses := true, named := ["internal/strconv.uint64pow10", "math/bits.deBruijn32tab", "math/bits.deBruijn64tab", "baize/code.operations"], apart := false, laid := [("math/bits.deBruijn32tab", laid_math_bits_deBruijn32tab), ("math/bits.deBruijn64tab", laid_math_bits_deBruijn64tab), ("internal/strconv.uint64pow10", laid_internal_strconv_uint64pow10), ("baize/code.operations", laid_baize_code_operations)] }
def WitnessStaysSaid : Prop := witnessStaysRow.holds Tryz.pinned (OpenSpec.ofChange witnessStaysSpec)

/-- ITS FALSE NEIGHBOUR: 'it returns false'. Refute it at one input. -/
def witnessStaysWrong : ChangeSpec := { name := "witnessStays", fn := fun _ => fun
  | [d1, d2] => { results := [.lit (.bool false)], args := [d1, d2] }
  | _ => none }
def WitnessStaysWrongFalsely : Prop := witnessStaysRow.holds Tryz.pinned (OpenSpec.ofChange witnessStaysWrong)

/-- 'baizelaw22.WitnessTrace': WHATEVER THE INPUT: true; the input reads as it did. -/
def witnessTraceSpec : ChangeSpec := { name := "witnessTrace", fn := fun _ => fun
  | [d1, d2, d3] => { results := [.lit (.bool true)], args := [d1, d2, d3] }
  | _ => none }
def witnessTraceRow : OpenClaim := { program := "ytahljceanodhkaagreatdoor", sum := "024eabc1bdcbbae06d67dacaf75a14e4be416a6fd3ec23d5fc2518a0e46a7b66", func := "baize/baizelaw22.WitnessTrace", spec := "witnessTrace", unfollowed := true, recurses := true, named := ["internal/strconv.uint64pow10", "math/bits.deBruijn32tab", "math/bits.deBruijn64tab", "baize/code.operations"], apart := false, laid := [("math/bits.deBruijn32tab", laid_math_bits_deBruijn32tab), ("math/bits.deBruijn64tab", laid_math_bits_deBruijn64tab), ("internal/strconv.uint64pow10", laid_internal_strconv_uint64pow10), ("baize/code.operations", laid_baize_code_operations)] }
def WitnessTraceSaid : Prop := witnessTraceRow.holds Tryz.pinned (OpenSpec.ofChange witnessTraceSpec)

/-- ITS FALSE NEIGHBOUR: 'it returns false'. Refute it at one input. -/
def witnessTraceWrong : ChangeSpec := { name := "witnessTrace", fn := fun _ => fun
  | [d1, d2, d3] => { results := [.lit (.bool false)], args := [d1, d2, d3] }
  | _ => none }
def WitnessTraceWrongFalsely : Prop := witnessTraceRow.holds Tryz.pinned (OpenSpec.ofChange witnessTraceWrong)

/-- 'baizelaw22.WitnessSmall': WHATEVER THE INPUT: true; the input reads as it did. -/
def witnessSmallSpec : ChangeSpec := { name := "witnessSmall", fn := fun _ => fun
  | [d1, d2] => { results := [.lit (.bool true)], args := [d1, d2] }
  | _ => none }
def witnessSmallRow : OpenClaim := { program := "ytahljceanodhkaagreatdoor", sum := "024eabc1bdcbbae06d67dacaf75a14e4be416a6fd3ec23d5fc2518a0e46a7b66", func := "baize/baizelaw22.WitnessSmall", spec := "witnessSmall", unfollowed := true, recurses := true, named := ["internal/strconv.uint64pow10", "math/bits.deBruijn32tab", "math/bits.deBruijn64tab", "baize/code.operations"], apart := false, laid := [("math/bits.deBruijn32tab", laid_math_bits_deBruijn32tab), ("math/bits.deBruijn64tab", laid_math_bits_deBruijn64tab), ("internal/strconv.uint64pow10", laid_internal_strconv_uint64pow10), ("baize/code.operations", laid_baize_code_operations)] }
def WitnessSmallSaid : Prop := witnessSmallRow.holds Tryz.pinned (OpenSpec.ofChange witnessSmallSpec)

/-- ITS FALSE NEIGHBOUR: 'it returns false'. Refute it at one input. -/
def witnessSmallWrong : ChangeSpec := { name := "witnessSmall", fn := fun _ => fun
  | [d1, d2] => { results := [.lit (.bool false)], args := [d1, d2] }
  | _ => none }
def WitnessSmallWrongFalsely : Prop := witnessSmallRow.holds Tryz.pinned (OpenSpec.ofChange witnessSmallWrong)

/-- 'baizelaw23.HalveActs': WHATEVER THE INPUT: true; the input reads as it did. -/
def halveActsSpec : ChangeSpec := { name := "halveActs", fn := fun _ => fun
  | [d1, d2, d3] => { results := [.lit (.bool true)], args := [d1, d2, d3] }
  | _ => none }
def halveActsRow : OpenClaim := { program := "ytahljceanodhkaagreatdoor", sum := "024eabc1bdcbbae06d67dacaf75a14e4be416a6fd3ec23d5fc2518a0e46a7b66", func := "baize/baizelaw23.HalveActs", spec := "halveActs", unfollowed := true, recurses := true, named := ["internal/strconv.uint64pow10", "math/bits.deBruijn32tab", "math/bits.deBruijn64tab", "baize/code.operations"], apart := false, laid := [("math/bits.deBruijn32tab", laid_math_bits_deBruijn32tab), ("math/bits.deBruijn64tab", laid_math_bits_deBruijn64tab), ("internal/strconv.uint64pow10", laid_internal_strconv_uint64pow10), ("baize/code.operations", laid_baize_code_operations)] }
def HalveActsSaid : Prop := halveActsRow.holds Tryz.pinned (OpenSpec.ofChange halveActsSpec)

/-- ITS FALSE NEIGHBOUR: 'it returns false'. Refute it at one input. -/
def halveActsWrong : ChangeSpec := { name := "halveActs", fn := fun _ => fun
  | [d1, d2, d3] => { results := [.lit (.bool false)], args := [d1, d2, d3] }
  | _ => none }
def HalveActsWrongFalsely : Prop := halveActsRow.holds Tryz.pinned (OpenSpec.ofChange halveActsWrong)

/-- 'baizelaw23.HalveTeller': WHATEVER THE INPUT: true; the input reads as it did. -/
def halveTellerSpec : ChangeSpec := { name := "halveTeller", fn := fun _ => fun
  | [d1, d2, d3] => { results := [.lit (.bool true)], args := [d1, d2, d3] }
  | _ => none }
def halveTellerRow : OpenClaim := { program := "ytahljceanodhkaagreatdoor", sum := "024eabc1bdcbbae06d67dacaf75a14e4be416a6fd3ec23d5fc2518a0e46a7b66", func := "baize/baizelaw23.HalveTeller", spec := "halveTeller", unfollowed := true, recurses := true, named := ["internal/strconv.uint64pow10", "math/bits.deBruijn32tab", "math/bits.deBruijn64tab", "baize/code.operations"], apart := false, laid := [("math/bits.deBruijn32tab", laid_math_bits_deBruijn32tab), ("math/bits.deBruijn64tab", laid_math_bits_deBruijn64tab), ("internal/strconv.uint64pow10", laid_internal_strconv_uint64pow10), ("baize/code.operations", laid_baize_code_operations)] }
def HalveTellerSaid : Prop := halveTellerRow.holds Tryz.pinned (OpenSpec.ofChange halveTellerSpec)

/-- ITS FALSE NEIGHBOUR: 'it returns false'. Refute it at one input. -/
def halveTellerWrong : ChangeSpec := { name := "halveTeller", fn := fun _ => fun
  | [d1, d2, d3] => { results := [.lit (.bool false)], args := [d1, d2, d3] }
  | _ => none }
def HalveTellerWrongFalsely : Prop := halveTellerRow.holds Tryz.pinned (OpenSpec.ofChange halveTellerWrong)

/-- 'baizelaw22.WitnessBytes': WHATEVER THE INPUT: true; the input reads as it did. -/
def witnessBytesSpec : ChangeSpec := { name := "witnessBytes", fn := fun _ => fun
  | [d1, d2] => { results := [.lit (.bool true)], args := [d1, d2] }
  | _ => none }
def witnessBytesRow : OpenClaim := { program := "ytahljceanodhkaagreatdoor", sum := "024eabc1bdcbbae06d67dacaf75a14e4be416a6fd3ec23d5fc2518a0e46a7b66", func := "baize/baizelaw22.WitnessBytes", spec := "witnessBytes", unfollowed := true, recurses := true, named := ["internal/strconv.uint64pow10", "math/bits.deBruijn32tab", "math/bits.deBruijn64tab", "baize/code.operations"], apart := false, laid := [("math/bits.deBruijn32tab", laid_math_bits_deBruijn32tab), ("math/bits.deBruijn64tab", laid_math_bits_deBruijn64tab), ("internal/strconv.uint64pow10", laid_internal_strconv_uint64pow10), ("baize/code.operations", laid_baize_code_operations)] }
def WitnessBytesSaid : Prop := witnessBytesRow.holds Tryz.pinned (OpenSpec.ofChange witnessBytesSpec)

/-- ITS FALSE NEIGHBOUR: 'it returns false'. Refute it at one input. -/
def witnessBytesWrong : ChangeSpec := { name := "witnessBytes", fn := fun _ => fun
  | [d1, d2] => { results := [.lit (.bool false)], args := [d1, d2] }
  | _ => none }
def WitnessBytesWrongFalsely : Prop := witnessBytesRow.holds Tryz.pinned (OpenSpec.ofChange witnessBytesWrong)

/- THE SECOND FORM. 'bulk': how many values and letters a reading holds, each counted each time it is reached (what is shared counts as often as it is met; a slice's spare places count too). A statement '..UptoSaid' is the law's where the arguments, and the package variables that the reading takes, are together of bulk at most 1048576: NARROWER than '..Said'. Prove '..Said' where nothing that the law and all that it calls make is longer than what came in: it says more and counts as full. Else prove '..UptoSaid'. A law counts once. -/
mutual
def uptoBulk {H : Type} : DataW H → Nat
  | .lit (.string bytes) => bytes.length + 1
  | .lit _ => 1
  | .nil => 1
  | .ptr d => uptoBulk d + 1
  | .slice elems spare => uptoBulkAll elems + uptoBulkAll spare + 1
  | .agg parts => uptoBulkAll parts + 1
  | .iface _ d => uptoBulk d + 1
  | .map entries => uptoBulkEntries entries + 1
  | .held _ => 1
def uptoBulkAll {H : Type} : List (DataW H) → Nat
  | [] => 0
  | d :: r => uptoBulk d + uptoBulkAll r
def uptoBulkEntries {H : Type} : List (Lit × DataW H) → Nat
  | [] => 0
  | x :: r => uptoBulkEntry x + uptoBulkEntries r
def uptoBulkEntry {H : Type} : Lit × DataW H → Nat
  | (.string bytes, d) => bytes.length + uptoBulk d + 1
  | (_, d) => uptoBulk d + 1
 end
def uptoSmall : (H : Type) → List (DataW H) → Bool := fun _ ds => decide (uptoBulkAll ds ≤ 1048576)
def OpenSpec.upto (s : _root_.Go.ChangeSpec) : _root_.Go.OpenSpec := { _root_.Go.OpenSpec.ofChange s with cond := some uptoSmall }

/-- 'baizelaw23.HalveSilence', WHERE WHAT IT READS IS OF BULK AT MOST 1048576: true; the input reads as it did. -/
def halveSilenceUptoRow : OpenClaim := { program := "ytahljceanodhkaagreatdoor", sum := "024eabc1bdcbbae06d67dacaf75a14e4be416a6fd3ec23d5fc2518a0e46a7b66", func := "baize/baizelaw23.HalveSilence", spec := "halveSilence", unfollowed := true, recurses := true, named := ["internal/strconv.uint64pow10", "math/bits.deBruijn32tab", "math/bits.deBruijn64tab", "baize/code.operations"], apart := false, laid := [("math/bits.deBruijn32tab", laid_math_bits_deBruijn32tab), ("math/bits.deBruijn64tab", laid_math_bits_deBruijn64tab), ("internal/strconv.uint64pow10", laid_internal_strconv_uint64pow10), ("baize/code.operations", laid_baize_code_operations)], narrowed := true }
def HalveSilenceUptoSaid : Prop := halveSilenceUptoRow.holds Tryz.pinned (OpenSpec.upto halveSilenceSpec)

/-- 'baizelaw23.HalveClone', WHERE WHAT IT READS IS OF BULK AT MOST 1048576: true; the input reads as it did. -/
def halveCloneUptoRow : OpenClaim := { program := "ytahljceanodhkaagreatdoor", sum := "024eabc1bdcbbae06d67dacaf75a14e4be416a6fd3ec23d5fc2518a0e46a7b66", func := "baize/baizelaw23.HalveClone", spec := "halveClone", unfollowed := true, recurses := true, named := ["internal/strconv.uint64pow10", "math/bits.deBruijn32tab", "math/bits.deBruijn64tab", "baize/code.operations"], apart := false, laid := [("math/bits.deBruijn32tab", laid_math_bits_deBruijn32tab), ("math/bits.deBruijn64tab", laid_math_bits_deBruijn64tab), ("internal/strconv.uint64pow10", laid_internal_strconv_uint64pow10), ("baize/code.operations", laid_baize_code_operations)], narrowed := true }
def HalveCloneUptoSaid : Prop := halveCloneUptoRow.holds Tryz.pinned (OpenSpec.upto halveCloneSpec)

/-- 'baizelaw23.HalveNil', WHERE WHAT IT READS IS OF BULK AT MOST 1048576: true; the input reads as it did. -/
def halveNilUptoRow : OpenClaim := { program := "ytahljceanodhkaagreatdoor", sum := "024eabc1bdcbbae06d67dacaf75a14e4be416a6fd3ec23d5fc2518a0e46a7b66", func := "baize/baizelaw23.HalveNil", spec := "halveNil", unfollowed := true, recurses := true, named := ["internal/strconv.uint64pow10", "math/bits.deBruijn32tab", "math/bits.deBruijn64tab", "baize/code.operations"], apart := false, laid := [("math/bits.deBruijn32tab", laid_math_bits_deBruijn32tab), ("math/bits.deBruijn64tab", laid_math_bits_deBruijn64tab), ("internal/strconv.uint64pow10", laid_internal_strconv_uint64pow10), ("baize/code.operations", laid_baize_code_operations)], narrowed := true }
def HalveNilUptoSaid : Prop := halveNilUptoRow.holds Tryz.pinned (OpenSpec.upto halveNilSpec)

/-- 'baizelaw22.WitnessDigests', WHERE WHAT IT READS IS OF BULK AT MOST 1048576: true; the input reads as it did. -/
def witnessDigestsUptoRow : OpenClaim := { program := "ytahljceanodhkaagreatdoor", sum := "024eabc1bdcbbae06d67dacaf75a14e4be416a6fd3ec23d5fc2518a0e46a7b66", func := "baize/baizelaw22.WitnessDigests", spec := "witnessDigests", unfollowed := true, recurses := true, named := ["internal/strconv.uint64pow10", "math/bits.deBruijn32tab", "math/bits.deBruijn64tab", "baize/code.operations"], apart := false, laid := [("math/bits.deBruijn32tab", laid_math_bits_deBruijn32tab), ("math/bits.deBruijn64tab", laid_math_bits_deBruijn64tab), ("internal/strconv.uint64pow10", laid_internal_strconv_uint64pow10), ("baize/code.operations", laid_baize_code_operations)], narrowed := true }
def WitnessDigestsUptoSaid : Prop := witnessDigestsUptoRow.holds Tryz.pinned (OpenSpec.upto witnessDigestsSpec)

/-- 'baizelaw22.WitnessStays', WHERE WHAT IT READS IS OF BULK AT MOST 1048576: true; the input reads as it did. -/
def witnessStaysUptoRow : OpenClaim := { program := "ytahljceanodhkaagreatdoor", sum := "024eabc1bdcbbae06d67dacaf75a14e4be416a6fd3ec23d5fc2518a0e46a7b66", func := "baize/baizelaw22.WitnessStays", spec := "witnessStays", unfollowed := true, recurses := true, named := ["internal/strconv.uint64pow10", "math/bits.deBruijn32tab", "math/bits.deBruijn64tab", "baize/code.operations"], apart := false, laid := [("math/bits.deBruijn32tab", laid_math_bits_deBruijn32tab), ("math/bits.deBruijn64tab", laid_math_bits_deBruijn64tab), ("internal/strconv.uint64pow10", laid_internal_strconv_uint64pow10), ("baize/code.operations", laid_baize_code_operations)], narrowed := true }
def WitnessStaysUptoSaid : Prop := witnessStaysUptoRow.holds Tryz.pinned (OpenSpec.upto witnessStaysSpec)

/-- 'baizelaw22.WitnessTrace', WHERE WHAT IT READS IS OF BULK AT MOST 1048576: true; the input reads as it did. -/
def witnessTraceUptoRow : OpenClaim := { program := "ytahljceanodhkaagreatdoor", sum := "024eabc1bdcbbae06d67dacaf75a14e4be416a6fd3ec23d5fc2518a0e46a7b66", func := "baize/baizelaw22.WitnessTrace", spec := "witnessTrace", unfollowed := true, recurses := true, named := ["internal/strconv.uint64pow10", "math/bits.deBruijn32tab", "math/bits.deBruijn64tab", "baize/code.operations"], apart := false, laid := [("math/bits.deBruijn32tab", laid_math_bits_deBruijn32tab), ("math/bits.deBruijn64tab", laid_math_bits_deBruijn64tab), ("internal/strconv.uint64pow10", laid_internal_strconv_uint64pow10), ("baize/code.operations", laid_baize_code_operations)], narrowed := true }
def WitnessTraceUptoSaid : Prop := witnessTraceUptoRow.holds Tryz.pinned (OpenSpec.upto witnessTraceSpec)

/-- 'baizelaw22.WitnessSmall', WHERE WHAT IT READS IS OF BULK AT MOST 1048576: true; the input reads as it did. -/
def witnessSmallUptoRow : OpenClaim := { program := "ytahljceanodhkaagreatdoor", sum := "024eabc1bdcbbae06d67dacaf75a14e4be416a6fd3ec23d5fc2518a0e46a7b66", func := "baize/baizelaw22.WitnessSmall", spec := "witnessSmall", unfollowed := true, recurses := true, named := ["internal/strconv.uint64pow10", "math/bits.deBruijn32tab", "math/bits.deBruijn64tab", "baize/code.operations"], apart := false, laid := [("math/bits.deBruijn32tab", laid_math_bits_deBruijn32tab), ("math/bits.deBruijn64tab", laid_math_bits_deBruijn64tab), ("internal/strconv.uint64pow10", laid_internal_strconv_uint64pow10), ("baize/code.operations", laid_baize_code_operations)], narrowed := true }
def WitnessSmallUptoSaid : Prop := witnessSmallUptoRow.holds Tryz.pinned (OpenSpec.upto witnessSmallSpec)

/-- 'baizelaw23.HalveActs', WHERE WHAT IT READS IS OF BULK AT MOST 1048576: true; the input reads as it did. -/
def halveActsUptoRow : OpenClaim := { program := "ytahljceanodhkaagreatdoor", sum := "024eabc1bdcbbae06d67dacaf75a14e4be416a6fd3ec23d5fc2518a0e46a7b66", func := "baize/baizelaw23.HalveActs", spec := "halveActs", unfollowed := true, recurses := true, named := ["internal/strconv.uint64pow10", "math/bits.deBruijn32tab", "math/bits.deBruijn64tab", "baize/code.operations"], apart := false, laid := [("math/bits.deBruijn32tab", laid_math_bits_deBruijn32tab), ("math/bits.deBruijn64tab", laid_math_bits_deBruijn64tab), ("internal/strconv.uint64pow10", laid_internal_strconv_uint64pow10), ("baize/code.operations", laid_baize_code_operations)], narrowed := true }
def HalveActsUptoSaid : Prop := halveActsUptoRow.holds Tryz.pinned (OpenSpec.upto halveActsSpec)

/-- 'baizelaw23.HalveTeller', WHERE WHAT IT READS IS OF BULK AT MOST 1048576: true; the input reads as it did. -/
def halveTellerUptoRow : OpenClaim := { program := "ytahljceanodhkaagreatdoor", sum := "024eabc1bdcbbae06d67dacaf75a14e4be416a6fd3ec23d5fc2518a0e46a7b66", func := "baize/baizelaw23.HalveTeller", spec := "halveTeller", unfollowed := true, recurses := true, named := ["internal/strconv.uint64pow10", "math/bits.deBruijn32tab", "math/bits.deBruijn64tab", "baize/code.operations"], apart := false, laid := [("math/bits.deBruijn32tab", laid_math_bits_deBruijn32tab), ("math/bits.deBruijn64tab", laid_math_bits_deBruijn64tab), ("internal/strconv.uint64pow10", laid_internal_strconv_uint64pow10), ("baize/code.operations", laid_baize_code_operations)], narrowed := true }
def HalveTellerUptoSaid : Prop := halveTellerUptoRow.holds Tryz.pinned (OpenSpec.upto halveTellerSpec)

/-- 'baizelaw22.WitnessBytes', WHERE WHAT IT READS IS OF BULK AT MOST 1048576: true; the input reads as it did. -/
def witnessBytesUptoRow : OpenClaim := { program := "ytahljceanodhkaagreatdoor", sum := "024eabc1bdcbbae06d67dacaf75a14e4be416a6fd3ec23d5fc2518a0e46a7b66", func := "baize/baizelaw22.WitnessBytes", spec := "witnessBytes", unfollowed := true, recurses := true, named := ["internal/strconv.uint64pow10", "math/bits.deBruijn32tab", "math/bits.deBruijn64tab", "baize/code.operations"], apart := false, laid := [("math/bits.deBruijn32tab", laid_math_bits_deBruijn32tab), ("math/bits.deBruijn64tab", laid_math_bits_deBruijn64tab), ("internal/strconv.uint64pow10", laid_internal_strconv_uint64pow10), ("baize/code.operations", laid_baize_code_operations)], narrowed := true }
def WitnessBytesUptoSaid : Prop := witnessBytesUptoRow.holds Tryz.pinned (OpenSpec.upto witnessBytesSpec)

end Rows
end Go.Proofs.YtahljceanodhkaaGreatDoor
