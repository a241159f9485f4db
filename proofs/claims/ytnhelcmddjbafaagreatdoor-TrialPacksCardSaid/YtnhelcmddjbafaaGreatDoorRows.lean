/-
  NARROWER THAN 'FOR EVERY INPUT', by the rows' own cells (each row's printed sentence says how): TrialMiddles: laid · TrialHonest: loops, laid · TrialSilent: loops, laid · TrialNews: loops, laid · TrialClones: loops, laid · TrialPacks: laid.
  DERIVED. THE GIVEN ROWS OF THIS SEAT. 6 by the template 'for every input the law returns true; each argument reads behind the call as it read before'; 0 by the template 'total and deterministic' (their statements: YtnhelcmddjbafaaGreatDoorTotals.lean).
  GIVEN WITH THE SEED: the statements are not yours to turn. If you find one false, say at which input.
  Laid BY PROGRAM, IN A SANDBOX (cutbox-rows.mjs): the forced cells as the released guide's own fill.sh prints them over the translation 5953d11fa385c5fb… (all of the seat's roots in one cut). By AI agents, Wed Nov 11 2026. No macro, syntax, notation, axiom, sorry.
-/
import Derived.Test.YtnhelcmddjbafaaGreatDoorChecked
import GoSem.Claim
import GoSem.ClaimJoined
import GoSem.ClaimMapViews
import Derived.JoinedTies
import Derived.KernelRfl
namespace Go.Proofs.YtnhelcmddjbafaaGreatDoor
/- THE CELL 'sum', in the pinned program and in every row, IS THE sha256 OF THE DUMP (.gsa) THAT YtnhelcmddjbafaaGreatDoorProg.lean LOADS. Nothing in Lean hashes anything: it is a label: what it is worth is what the hold of that sum in a sandbox is worth. -/
noncomputable def Tryz.pinned : Pinned := { name := "ytnhelcmddjbafaagreatdoor", sum := "5953d11fa385c5fbda6aab140c101b35fe3ab54fd61abe037e10bf7842ecd039", checked := Tryz.checked }
namespace Rows
def none {H : Type} : Left H := { results := [], args := [] }

/- WHAT THE LISTED PACKAGE-LEVEL VARIABLES READ AS WHEN THE CALL BEGINS. Each datum BY PROGRAM (the guide's laid-datum.mjs) off the statement by which the dump's own 'gosem.cut.vars' lays the variable. In a bare row this is a premise. The card (YtnhelcmddjbafaaGreatDoorCards.lean) ties it to the program's text. -/
def laid_math_bits_deBruijn32tab {H : Type} : DataW H := .agg [.lit (.int .u8 0), .lit (.int .u8 1), .lit (.int .u8 28), .lit (.int .u8 2), .lit (.int .u8 29), .lit (.int .u8 14), .lit (.int .u8 24), .lit (.int .u8 3), .lit (.int .u8 30), .lit (.int .u8 22), .lit (.int .u8 20), .lit (.int .u8 15), .lit (.int .u8 25), .lit (.int .u8 17), .lit (.int .u8 4), .lit (.int .u8 8), .lit (.int .u8 31), .lit (.int .u8 27), .lit (.int .u8 13), .lit (.int .u8 23), .lit (.int .u8 21), .lit (.int .u8 19), .lit (.int .u8 16), .lit (.int .u8 7), .lit (.int .u8 26), .lit (.int .u8 12), .lit (.int .u8 18), .lit (.int .u8 6), .lit (.int .u8 11), .lit (.int .u8 5), .lit (.int .u8 10), .lit (.int .u8 9)]
def laid_math_bits_deBruijn64tab {H : Type} : DataW H := .agg [.lit (.int .u8 0), .lit (.int .u8 1), .lit (.int .u8 56), .lit (.int .u8 2), .lit (.int .u8 57), .lit (.int .u8 49), .lit (.int .u8 28), .lit (.int .u8 3), .lit (.int .u8 61), .lit (.int .u8 58), .lit (.int .u8 42), .lit (.int .u8 50), .lit (.int .u8 38), .lit (.int .u8 29), .lit (.int .u8 17), .lit (.int .u8 4), .lit (.int .u8 62), .lit (.int .u8 47), .lit (.int .u8 59), .lit (.int .u8 36), .lit (.int .u8 45), .lit (.int .u8 43), .lit (.int .u8 51), .lit (.int .u8 22), .lit (.int .u8 53), .lit (.int .u8 39), .lit (.int .u8 33), .lit (.int .u8 30), .lit (.int .u8 24), .lit (.int .u8 18), .lit (.int .u8 12), .lit (.int .u8 5), .lit (.int .u8 63), .lit (.int .u8 55), .lit (.int .u8 48), .lit (.int .u8 27), .lit (.int .u8 60), .lit (.int .u8 41), .lit (.int .u8 37), .lit (.int .u8 16), .lit (.int .u8 46), .lit (.int .u8 35), .lit (.int .u8 44), .lit (.int .u8 21), .lit (.int .u8 52), .lit (.int .u8 32), .lit (.int .u8 23), .lit (.int .u8 11), .lit (.int .u8 54), .lit (.int .u8 26), .lit (.int .u8 40), .lit (.int .u8 15), .lit (.int .u8 34), .lit (.int .u8 20), .lit (.int .u8 31), .lit (.int .u8 10), .lit (.int .u8 25), .lit (.int .u8 14), .lit (.int .u8 19), .lit (.int .u8 9), .lit (.int .u8 13), .lit (.int .u8 8), .lit (.int .u8 7), .lit (.int .u8 6)]
def laid_internal_strconv_uint64pow10 {H : Type} : DataW H := .agg [.lit (.int .u64 1), .lit (.int .u64 10), .lit (.int .u64 100), .lit (.int .u64 1000), .lit (.int .u64 10000), .lit (.int .u64 100000), .lit (.int .u64 1000000), .lit (.int .u64 10000000), .lit (.int .u64 100000000), .lit (.int .u64 1000000000), .lit (.int .u64 10000000000), .lit (.int .u64 100000000000), .lit (.int .u64 1000000000000), .lit (.int .u64 10000000000000), .lit (.int .u64 100000000000000), .lit (.int .u64 1000000000000000), .lit (.int .u64 10000000000000000), .lit (.int .u64 100000000000000000), .lit (.int .u64 1000000000000000000), .lit (.int .u64 10000000000000000000)]
def laid_unicode_White_Space {H : Type} : DataW H := .ptr (.agg [.slice [.agg [.lit (.int .u16 9), .lit (.int .u16 13), .lit (.int .u16 1)], .agg [.lit (.int .u16 32), .lit (.int .u16 133), .lit (.int .u16 101)], .agg [.lit (.int .u16 160), .lit (.int .u16 5760), .lit (.int .u16 5600)], .agg [.lit (.int .u16 8192), .lit (.int .u16 8202), .lit (.int .u16 1)], .agg [.lit (.int .u16 8232), .lit (.int .u16 8233), .lit (.int .u16 1)], .agg [.lit (.int .u16 8239), .lit (.int .u16 8287), .lit (.int .u16 48)], .agg [.lit (.int .u16 12288), .lit (.int .u16 12288), .lit (.int .u16 1)]] [], .nil, .lit (.int .i64 2)])
def laid_strings_asciiSpace {H : Type} : DataW H := .agg [.lit (.int .u8 0), .lit (.int .u8 0), .lit (.int .u8 0), .lit (.int .u8 0), .lit (.int .u8 0), .lit (.int .u8 0), .lit (.int .u8 0), .lit (.int .u8 0), .lit (.int .u8 0), .lit (.int .u8 1), .lit (.int .u8 1), .lit (.int .u8 1), .lit (.int .u8 1), .lit (.int .u8 1), .lit (.int .u8 0), .lit (.int .u8 0), .lit (.int .u8 0), .lit (.int .u8 0), .lit (.int .u8 0), .lit (.int .u8 0), .lit (.int .u8 0), .lit (.int .u8 0), .lit (.int .u8 0), .lit (.int .u8 0), .lit (.int .u8 0), .lit (.int .u8 0), .lit (.int .u8 0), .lit (.int .u8 0), .lit (.int .u8 0), .lit (.int .u8 0), .lit (.int .u8 0), .lit (.int .u8 0), .lit (.int .u8 1), .lit (.int .u8 0), .lit (.int .u8 0), .lit (.int .u8 0), .lit (.int .u8 0), .lit (.int .u8 0), .lit (.int .u8 0), .lit (.int .u8 0), .lit (.int .u8 0), .lit (.int .u8 0), .lit (.int .u8 0), .lit (.int .u8 0), .lit (.int .u8 0), .lit (.int .u8 0), .lit (.int .u8 0), .lit (.int .u8 0), .lit (.int .u8 0), .lit (.int .u8 0), .lit (.int .u8 0), .lit (.int .u8 0), .lit (.int .u8 0), .lit (.int .u8 0), .lit (.int .u8 0), .lit (.int .u8 0), .lit (.int .u8 0), .lit (.int .u8 0), .lit (.int .u8 0), .lit (.int .u8 0), .lit (.int .u8 0), .lit (.int .u8 0), .lit (.int .u8 0), .lit (.int .u8 0), .lit (.int .u8 0), .lit (.int .u8 0), .lit (.int .u8 0), .lit (.int .u8 0), .lit (.int .u8 0), .lit (.int .u8 0), .lit (.int .u8 0), .lit (.int .u8 0), .lit (.int .u8 0), .lit (.int .u8 0), .lit (.int .u8 0), .lit (.int .u8 0), .lit (.int .u8 0), .lit (.int .u8 0), .lit (.int .u8 0), .lit (.int .u8 0), .lit (.int .u8 0), .lit (.int .u8 0), .lit (.int .u8 0), .lit (.int .u8 0), .lit (.int .u8 0), .lit (.int .u8 0), .lit (.int .u8 0), .lit (.int .u8 0), .lit (.int .u8 0), .lit (.int .u8 0), .lit (.int .u8 0), .lit (.int .u8 0), .lit (.int .u8 0), .lit (.int .u8 0), .lit (.int .u8 0), .lit (.int .u8 0), .lit (.int .u8 0), .lit (.int .u8 0), .lit (.int .u8 0), .lit (.int .u8 0), .lit (.int .u8 0), .lit (.int .u8 0), .lit (.int .u8 0), .lit (.int .u8 0), .lit (.int .u8 0), .lit (.int .u8 0), .lit (.int .u8 0), .lit (.int .u8 0), .lit (.int .u8 0), .lit (.int .u8 0), .lit (.int .u8 0), .lit (.int .u8 0), .lit (.int .u8 0), .lit (.int .u8 0), .lit (.int .u8 0), .lit (.int .u8 0), .lit (.int .u8 0), .lit (.int .u8 0), .lit (.int .u8 0), .lit (.int .u8 0), .lit (.int .u8 0), .lit (.int .u8 0), .lit (.int .u8 0), .lit (.int .u8 0), .lit (.int .u8 0), .lit (.int .u8 0), .lit (.int .u8 0), .lit (.int .u8 0), .lit (.int .u8 0), .lit (.int .u8 0), .lit (.int .u8 0), .lit (.int .u8 0), .lit (.int .u8 0), .lit (.int .u8 0), .lit (.int .u8 0), .lit (.int .u8 0), .lit (.int .u8 0), .lit (.int .u8 0), .lit (.int .u8 0), .lit (.int .u8 0), .lit (.int .u8 0), .lit (.int .u8 0), .lit (.int .u8 0), .lit (.int .u8 0), .lit (.int .u8 0), .lit (.int .u8 0), .lit (.int .u8 0), .lit (.int .u8 0), .lit (.int .u8 0), .lit (.int .u8 0), .lit (.int .u8 0), .lit (.int .u8 0), .lit (.int .u8 0), .lit (.int .u8 0), .lit (.int .u8 0), .lit (.int .u8 0), .lit (.int .u8 0), .lit (.int .u8 0), .lit (.int .u8 0), .lit (.int .u8 0), .lit (.int .u8 0), .lit (.int .u8 0), .lit (.int .u8 0), .lit (.int .u8 0), .lit (.int .u8 0), .lit (.int .u8 0), .lit (.int .u8 0), .lit (.int .u8 0), .lit (.int .u8 0), .lit (.int .u8 0), .lit (.int .u8 0), .lit (.int .u8 0), .lit (.int .u8 0), .lit (.int .u8 0), .lit (.int .u8 0), .lit (.int .u8 0), .lit (.int .u8 0), .lit (.int .u8 0), .lit (.int .u8 0), .lit (.int .u8 0), .lit (.int .u8 0), .lit (.int .u8 0), .lit (.int .u8 0), .lit (.int .u8 0), .lit (.int .u8 0), .lit (.int .u8 0), .lit (.int .u8 0), .lit (.int .u8 0), .lit (.int .u8 0), .lit (.int .u8 0), .lit (.int .u8 0), .lit (.int .u8 0), .lit (.int .u8 0), .lit (.int .u8 0), .lit (.int .u8 0), .lit (.int .u8 0), .lit (.int .u8 0), .lit (.int .u8 0), .lit (.int .u8 0), .lit (.int .u8 0), .lit (.int .u8 0), .lit (.int .u8 0), .lit (.int .u8 0), .lit (.int .u8 0), .lit (.int .u8 0), .lit (.int .u8 0), .lit (.int .u8 0), .lit (.int .u8 0), .lit (.int .u8 0), .lit (.int .u8 0), .lit (.int .u8 0), .lit (.int .u8 0), .lit (.int .u8 0), .lit (.int .u8 0), .lit (.int .u8 0), .lit (.int .u8 0), .lit (.int .u8 0), .lit (.int .u8 0), .lit (.int .u8 0), .lit (.int .u8 0), .lit (.int .u8 0), .lit (.int .u8 0), .lit (.int .u8 0), .lit (.int .u8 0), .lit (.int .u8 0), .lit (.int .u8 0), .lit (.int .u8 0), .lit (.int .u8 0), .lit (.int .u8 0), .lit (.int .u8 0), .lit (.int .u8 0), .lit (.int .u8 0), .lit (.int .u8 0), .lit (.int .u8 0), .lit (.int .u8 0), .lit (.int .u8 0), .lit (.int .u8 0), .lit (.int .u8 0), .lit (.int .u8 0), .lit (.int .u8 0), .lit (.int .u8 0), .lit (.int .u8 0), .lit (.int .u8 0), .lit (.int .u8 0), .lit (.int .u8 0), .lit (.int .u8 0), .lit (.int .u8 0), .lit (.int .u8 0), .lit (.int .u8 0), .lit (.int .u8 0), .lit (.int .u8 0), .lit (.int .u8 0), .lit (.int .u8 0), .lit (.int .u8 0), .lit (.int .u8 0), .lit (.int .u8 0)]
def laid_baize_code_operations {H : Type} : DataW H := .agg [.agg [.lit (.string [104, 97, 108, 116]), .lit (.string [110])], .agg [.lit (.string [115, 101, 116]), .lit (.string [119, 110])], .agg [.lit (.string [109, 111, 118, 101]), .lit (.string [119, 119])], .agg [.lit (.string [97, 100, 100]), .lit (.string [119, 119, 119])], .agg [.lit (.string [115, 117, 98]), .lit (.string [119, 119, 119])], .agg [.lit (.string [109, 117, 108]), .lit (.string [119, 119, 119])], .agg [.lit (.string [100, 105, 118]), .lit (.string [119, 119, 119])], .agg [.lit (.string [114, 101, 109]), .lit (.string [119, 119, 119])], .agg [.lit (.string [101, 113]), .lit (.string [119, 119, 119])], .agg [.lit (.string [110, 101]), .lit (.string [119, 119, 119])], .agg [.lit (.string [108, 116]), .lit (.string [119, 119, 119])], .agg [.lit (.string [108, 101]), .lit (.string [119, 119, 119])], .agg [.lit (.string [97, 110, 100]), .lit (.string [119, 119, 119])], .agg [.lit (.string [111, 114]), .lit (.string [119, 119, 119])], .agg [.lit (.string [110, 111, 116]), .lit (.string [119, 119])], .agg [.lit (.string [108, 111, 97, 100]), .lit (.string [119, 119, 119])], .agg [.lit (.string [115, 116, 111, 114, 101]), .lit (.string [119, 119, 119])], .agg [.lit (.string [99, 117, 116]), .lit (.string [119, 110, 110])], .agg [.lit (.string [119, 105, 116, 104, 105, 110]), .lit (.string [119, 119, 110])], .agg [.lit (.string [106, 117, 109, 112]), .lit (.string [112])], .agg [.lit (.string [106, 122]), .lit (.string [112, 119])], .agg [.lit (.string [106, 110, 122]), .lit (.string [112, 119])]]
def laid_baize_sorts_stmtParts {H : Type} : DataW H := .agg [.lit (.int .i64 1), .lit (.int .i64 2), .lit (.int .i64 1), .lit (.int .i64 0), .lit (.int .i64 0), .lit (.int .i64 0), .lit (.int .i64 1), .lit (.int .i64 0), .lit (.int .i64 2), .lit (.int .i64 1)]
def laid_baize_sorts_exprParts {H : Type} : DataW H := .agg [.lit (.int .i64 0), .lit (.int .i64 0), .lit (.int .i64 1), .lit (.int .i64 1), .lit (.int .i64 1), .lit (.int .i64 2), .lit (.int .i64 2), .lit (.int .i64 2), .lit (.int .i64 2), .lit (.int .i64 2), .lit (.int .i64 2), .lit (.int .i64 2), .lit (.int .i64 2), .lit (.int .i64 2), .lit (.int .i64 2), .lit (.int .i64 2), .lit (.int .i64 2), .lit (.int .i64 2)]

/-- 'baizelaw36.TrialMiddles': WHATEVER THE INPUT: true; the input reads as it did. -/
def trialMiddlesSpec : ChangeSpec := { name := "trialMiddles", fn := fun _ => fun
  | [d1, d2, d3] => { results := [.lit (.bool true)], args := [d1, d2, d3] }
  | _ => none }
def trialMiddlesRow : OpenClaim := { program := "ytnhelcmddjbafaagreatdoor", sum := "5953d11fa385c5fbda6aab140c101b35fe3ab54fd61abe037e10bf7842ecd039", func := "baize/baizelaw36.TrialMiddles", spec := "trialMiddles", unfollowed := true, recurses := true, named := ["strings.asciiSpace", "unicode.White_Space", "baize/sorts.stmtParts", "baize/sorts.exprParts", "internal/strconv.uint64pow10", "math/bits.deBruijn32tab", "math/bits.deBruijn64tab", "baize/code.operations"], apart := false, laid := [("math/bits.deBruijn32tab", laid_math_bits_deBruijn32tab), ("math/bits.deBruijn64tab", laid_math_bits_deBruijn64tab), ("internal/strconv.uint64pow10", laid_internal_strconv_uint64pow10), ("unicode.White_Space", laid_unicode_White_Space), ("strings.asciiSpace", laid_strings_asciiSpace), ("baize/code.operations", laid_baize_code_operations), ("baize/sorts.stmtParts", laid_baize_sorts_stmtParts), ("baize/sorts.exprParts", laid_baize_sorts_exprParts)] }
def TrialMiddlesSaid : Prop := trialMiddlesRow.holds Tryz.pinned (OpenSpec.ofChange trialMiddlesSpec)

/-- ITS FALSE NEIGHBOUR: 'it returns false'. Refute it at one input. -/
def trialMiddlesWrong : ChangeSpec := { name := "trialMiddles", fn := fun _ => fun
  | [d1, d2, d3] => { results := [.lit (.bool false)], args := [d1, d2, d3] }
  | _ => none }
def TrialMiddlesWrongFalsely : Prop := trialMiddlesRow.holds Tryz.pinned (OpenSpec.ofChange trialMiddlesWrong)

/-- 'baizelaw36.TrialHonest': WHATEVER THE INPUT: true; the input reads as it did. -/
def trialHonestSpec : ChangeSpec := { name := "trialHonest", fn := fun _ => fun
  | [d1, d2, d3] => { results := [.lit (.bool true)], args := [d1, d2, d3] }
  | _ => none }
def trialHonestRow : OpenClaim := { program := "ytnhelcmddjbafaagreatdoor", sum := "5953d11fa385c5fbda6aab140c101b35fe3ab54fd61abe037e10bf7842ecd039", func := "baize/baizelaw36.TrialHonest", spec := "trialHonest", unfollowed := true, recurses := true, named := ["strings.asciiSpace", "unicode.White_Space", "baize/sorts.stmtParts", "baize/sorts.exprParts", "internal/strconv.uint64pow10", "math/bits.deBruijn32tab", "math/bits.deBruijn64tab", "baize/code.operations"], loops := true, apart := false, laid := [("math/bits.deBruijn32tab", laid_math_bits_deBruijn32tab), ("math/bits.deBruijn64tab", laid_math_bits_deBruijn64tab), ("internal/strconv.uint64pow10", laid_internal_strconv_uint64pow10), ("unicode.White_Space", laid_unicode_White_Space), ("strings.asciiSpace", laid_strings_asciiSpace), ("baize/code.operations", laid_baize_code_operations), ("baize/sorts.stmtParts", laid_baize_sorts_stmtParts), ("baize/sorts.exprParts", laid_baize_sorts_exprParts)] }
def TrialHonestSaid : Prop := trialHonestRow.holds Tryz.pinned (OpenSpec.ofChange trialHonestSpec)

/-- ITS FALSE NEIGHBOUR: 'it returns false'. Refute it at one input. -/
def trialHonestWrong : ChangeSpec := { name := "trialHonest", fn := fun _ => fun
  | [d1, d2, d3] => { results := [.lit (.bool false)], args := [d1, d2, d3] }
  | _ => none }
def TrialHonestWrongFalsely : Prop := trialHonestRow.holds Tryz.pinned (OpenSpec.ofChange trialHonestWrong)

/-- 'baizelaw36.TrialSilent': WHATEVER THE INPUT: true; the input reads as it did. -/
def trialSilentSpec : ChangeSpec := { name := "trialSilent", fn := fun _ => fun
  | [d1, d2, d3] => { results := [.lit (.bool true)], args := [d1, d2, d3] }
  | _ => none }
def trialSilentRow : OpenClaim := { program := "ytnhelcmddjbafaagreatdoor", sum := "5953d11fa385c5fbda6aab140c101b35fe3ab54fd61abe037e10bf7842ecd039", func := "baize/baizelaw36.TrialSilent", spec := "trialSilent", unfollowed := true, recurses := true, named := ["strings.asciiSpace", "unicode.White_Space", "baize/sorts.stmtParts", "baize/sorts.exprParts", "internal/strconv.uint64pow10", "math/bits.deBruijn32tab", "math/bits.deBruijn64tab", "baize/code.operations"], loops := true, apart := false, laid := [("math/bits.deBruijn32tab", laid_math_bits_deBruijn32tab), ("math/bits.deBruijn64tab", laid_math_bits_deBruijn64tab), ("internal/strconv.uint64pow10", laid_internal_strconv_uint64pow10), ("unicode.White_Space", laid_unicode_White_Space), ("strings.asciiSpace", laid_strings_asciiSpace), ("baize/code.operations", laid_baize_code_operations), ("baize/sorts.stmtParts", laid_baize_sorts_stmtParts), ("baize/sorts.exprParts", laid_baize_sorts_exprParts)] }
def TrialSilentSaid : Prop := trialSilentRow.holds Tryz.pinned (OpenSpec.ofChange trialSilentSpec)

/-- ITS FALSE NEIGHBOUR: 'it returns false'. Refute it at one input. -/
def trialSilentWrong : ChangeSpec := { name := "trialSilent", fn := fun _ => fun
  | [d1, d2, d3] => { results := [.lit (.bool false)], args := [d1, d2, d3] }
  | _ => none }
def TrialSilentWrongFalsely : Prop := trialSilentRow.holds Tryz.pinned (OpenSpec.ofChange trialSilentWrong)

/-- 'baizelaw36.TrialNews': WHATEVER THE INPUT: true; the input reads as it did. -/
def trialNewsSpec : ChangeSpec := { name := "trialNews", fn := fun _ => fun
  | [d1, d2, d3] => { results := [.lit (.bool true)], args := [d1, d2, d3] }
  | _ => none }
def trialNewsRow : OpenClaim := { program := "ytnhelcmddjbafaagreatdoor", sum := "5953d11fa385c5fbda6aab140c101b35fe3ab54fd61abe037e10bf7842ecd039", func := "baize/baizelaw36.TrialNews", spec := "trialNews", unfollowed := true, recurses := true, named := ["internal/strconv.uint64pow10", "math/bits.deBruijn32tab", "math/bits.deBruijn64tab", "baize/code.operations", "strings.asciiSpace", "unicode.White_Space", "baize/sorts.stmtParts", "baize/sorts.exprParts"], loops := true, apart := false, laid := [("math/bits.deBruijn32tab", laid_math_bits_deBruijn32tab), ("math/bits.deBruijn64tab", laid_math_bits_deBruijn64tab), ("internal/strconv.uint64pow10", laid_internal_strconv_uint64pow10), ("unicode.White_Space", laid_unicode_White_Space), ("strings.asciiSpace", laid_strings_asciiSpace), ("baize/code.operations", laid_baize_code_operations), ("baize/sorts.stmtParts", laid_baize_sorts_stmtParts), ("baize/sorts.exprParts", laid_baize_sorts_exprParts)] }
def TrialNewsSaid : Prop := trialNewsRow.holds Tryz.pinned (OpenSpec.ofChange trialNewsSpec)

/-- ITS FALSE NEIGHBOUR: 'it returns false'. Refute it at one input. -/
def trialNewsWrong : ChangeSpec := { name := "trialNews", fn := fun _ => fun
  | [d1, d2, d3] => { results := [.lit (.bool false)], args := [d1, d2, d3] }
  | _ => none }
def TrialNewsWrongFalsely : Prop := trialNewsRow.holds Tryz.pinned (OpenSpec.ofChange trialNewsWrong)

/-- 'baizelaw36.TrialClones': WHATEVER THE INPUT: true; the input reads as it did. -/
def trialClonesSpec : ChangeSpec := { name := "trialClones", fn := fun _ => fun
  | [d1, d2, d3] => { results := [.lit (.bool true)], args := [d1, d2, d3] }
  | _ => none }
def trialClonesRow : OpenClaim := { program := "ytnhelcmddjbafaagreatdoor", sum := "5953d11fa385c5fbda6aab140c101b35fe3ab54fd61abe037e10bf7842ecd039", func := "baize/baizelaw36.TrialClones", spec := "trialClones", unfollowed := true, recurses := true, named := ["strings.asciiSpace", "unicode.White_Space", "baize/sorts.stmtParts", "baize/sorts.exprParts", "internal/strconv.uint64pow10", "math/bits.deBruijn32tab", "math/bits.deBruijn64tab", "baize/code.operations"], loops := true, apart := false, laid := [("math/bits.deBruijn32tab", laid_math_bits_deBruijn32tab), ("math/bits.deBruijn64tab", laid_math_bits_deBruijn64tab), ("internal/strconv.uint64pow10", laid_internal_strconv_uint64pow10), ("unicode.White_Space", laid_unicode_White_Space), ("strings.asciiSpace", laid_strings_asciiSpace), ("baize/code.operations", laid_baize_code_operations), ("baize/sorts.stmtParts", laid_baize_sorts_stmtParts), ("baize/sorts.exprParts", laid_baize_sorts_exprParts)] }
def TrialClonesSaid : Prop := trialClonesRow.holds Tryz.pinned (OpenSpec.ofChange trialClonesSpec)

/-- ITS FALSE NEIGHBOUR: 'it returns false'. Refute it at one input. -/
def trialClonesWrong : ChangeSpec := { name := "trialClones", fn := fun _ => fun
  | [d1, d2, d3] => { results := [.lit (.bool false)], args := [d1, d2, d3] }
  | _ => none }
def TrialClonesWrongFalsely : Prop := trialClonesRow.holds Tryz.pinned (OpenSpec.ofChange trialClonesWrong)

/-- 'baizelaw36.TrialPacks': WHATEVER THE INPUT: true; the input reads as it did. -/
def trialPacksSpec : ChangeSpec := { name := "trialPacks", fn := fun _ => fun
  | [d1, d2] => { results := [.lit (.bool true)], args := [d1, d2] }
  | _ => none }
def trialPacksRow : OpenClaim := { program := "ytnhelcmddjbafaagreatdoor", sum := "5953d11fa385c5fbda6aab140c101b35fe3ab54fd61abe037e10bf7842ecd039", func := "baize/baizelaw36.TrialPacks", spec := "trialPacks", unfollowed := true, recurses := true, named := ["strings.asciiSpace", "unicode.White_Space", "baize/sorts.stmtParts", "baize/sorts.exprParts", "internal/strconv.uint64pow10", "math/bits.deBruijn32tab", "math/bits.deBruijn64tab", "baize/code.operations"], apart := false, laid := [("math/bits.deBruijn32tab", laid_math_bits_deBruijn32tab), ("math/bits.deBruijn64tab", laid_math_bits_deBruijn64tab), ("internal/strconv.uint64pow10", laid_internal_strconv_uint64pow10), ("unicode.White_Space", laid_unicode_White_Space), ("strings.asciiSpace", laid_strings_asciiSpace), ("baize/code.operations", laid_baize_code_operations), ("baize/sorts.stmtParts", laid_baize_sorts_stmtParts), ("baize/sorts.exprParts", laid_baize_sorts_exprParts)] }
def TrialPacksSaid : Prop := trialPacksRow.holds Tryz.pinned (OpenSpec.ofChange trialPacksSpec)

/-- ITS FALSE NEIGHBOUR: 'it returns false'. Refute it at one input. -/
def trialPacksWrong : ChangeSpec := { name := "trialPacks", fn := fun _ => fun
  | [d1, d2] => { results := [.lit (.bool false)], args := [d1, d2] }
  | _ => none }
def TrialPacksWrongFalsely : Prop := trialPacksRow.holds Tryz.pinned (OpenSpec.ofChange trialPacksWrong)

/- THE SECOND FORM. 'bulk': how many values and letters a reading holds, each counted each time it is reached (what is shared counts as often as it is met; a slice's spare places count too). A statement '..UptoSaid' is the law's where the arguments, and the package variables that the reading takes, are together of bulk at most 1048576: NARROWER than '..Said'. Prove '..Said' where nothing that the law and all that it calls make is longer than what came in: it says more and counts as full. Else prove '..UptoSaid'. A law counts once. -/
mutual
def uptoBulk {H : Type} : DataW H → Nat
  | .lit (.string bytes) => bytes.length + 1
  | .lit _ => 1
  | .nil => 1
  | .ptr d => uptoBulk d + 1
  | .slice elems spare => uptoBulkAll elems + uptoBulkAll spare + 1
  | .agg parts => uptoBulkAll parts + 1
  | .iface _ d => uptoBulk d + 1
  | .map entries => uptoBulkEntries entries + 1
  | .held _ => 1
def uptoBulkAll {H : Type} : List (DataW H) → Nat
  | [] => 0
  | d :: r => uptoBulk d + uptoBulkAll r
def uptoBulkEntries {H : Type} : List (Lit × DataW H) → Nat
  | [] => 0
  | x :: r => uptoBulkEntry x + uptoBulkEntries r
def uptoBulkEntry {H : Type} : Lit × DataW H → Nat
  | (.string bytes, d) => bytes.length + uptoBulk d + 1
  | (_, d) => uptoBulk d + 1
 end
def uptoSmall : (H : Type) → List (DataW H) → Bool := fun _ ds => decide (uptoBulkAll ds ≤ 1048576)
def OpenSpec.upto (s : _root_.Go.ChangeSpec) : _root_.Go.OpenSpec := { _root_.Go.OpenSpec.ofChange s with cond := some uptoSmall }

/-- 'baizelaw36.TrialMiddles', WHERE WHAT IT READS IS OF BULK AT MOST 1048576: true; the input reads as it did. -/
def trialMiddlesUptoRow : OpenClaim := { program := "ytnhelcmddjbafaagreatdoor", sum := "5953d11fa385c5fbda6aab140c101b35fe3ab54fd61abe037e10bf7842ecd039", func := "baize/baizelaw36.TrialMiddles", spec := "trialMiddles", unfollowed := true, recurses := true, named := ["strings.asciiSpace", "unicode.White_Space", "baize/sorts.stmtParts", "baize/sorts.exprParts", "internal/strconv.uint64pow10", "math/bits.deBruijn32tab", "math/bits.deBruijn64tab", "baize/code.operations"], apart := false, laid := [("math/bits.deBruijn32tab", laid_math_bits_deBruijn32tab), ("math/bits.deBruijn64tab", laid_math_bits_deBruijn64tab), ("internal/strconv.uint64pow10", laid_internal_strconv_uint64pow10), ("unicode.White_Space", laid_unicode_White_Space), ("strings.asciiSpace", laid_strings_asciiSpace), ("baize/code.operations", laid_baize_code_operations), ("baize/sorts.stmtParts", laid_baize_sorts_stmtParts), ("baize/sorts.exprParts", laid_baize_sorts_exprParts)], narrowed := true }
def TrialMiddlesUptoSaid : Prop := trialMiddlesUptoRow.holds Tryz.pinned (OpenSpec.upto trialMiddlesSpec)

/-- 'baizelaw36.TrialHonest', WHERE WHAT IT READS IS OF BULK AT MOST 1048576: true; the input reads as it did. -/
def trialHonestUptoRow : OpenClaim := { program := "ytnhelcmddjbafaagreatdoor", sum := "5953d11fa385c5fbda6aab140c101b35fe3ab54fd61abe037e10bf7842ecd039", func := "baize/baizelaw36.TrialHonest", spec := "trialHonest", unfollowed := true, recurses := true, named := ["strings.asciiSpace", "unicode.White_Space", "baize/sorts.stmtParts", "baize/sorts.exprParts", "internal/strconv.uint64pow10", "math/bits.deBruijn32tab", "math/bits.deBruijn64tab", "baize/code.operations"], loops := true, apart := false, laid := [("math/bits.deBruijn32tab", laid_math_bits_deBruijn32tab), ("math/bits.deBruijn64tab", laid_math_bits_deBruijn64tab), ("internal/strconv.uint64pow10", laid_internal_strconv_uint64pow10), ("unicode.White_Space", laid_unicode_White_Space), ("strings.asciiSpace", laid_strings_asciiSpace), ("baize/code.operations", laid_baize_code_operations), ("baize/sorts.stmtParts", laid_baize_sorts_stmtParts), ("baize/sorts.exprParts", laid_baize_sorts_exprParts)], narrowed := true }
def TrialHonestUptoSaid : Prop := trialHonestUptoRow.holds Tryz.pinned (OpenSpec.upto trialHonestSpec)

/-- 'baizelaw36.TrialSilent', WHERE WHAT IT READS IS OF BULK AT MOST 1048576: true; the input reads as it did. -/
def trialSilentUptoRow : OpenClaim := { program := "ytnhelcmddjbafaagreatdoor", sum := "5953d11fa385c5fbda6aab140c101b35fe3ab54fd61abe037e10bf7842ecd039", func := "baize/baizelaw36.TrialSilent", spec := "trialSilent", unfollowed := true, recurses := true, named := ["strings.asciiSpace", "unicode.White_Space", "baize/sorts.stmtParts", "baize/sorts.exprParts", "internal/strconv.uint64pow10", "math/bits.deBruijn32tab", "math/bits.deBruijn64tab", "baize/code.operations"], loops := true, apart := false, laid := [("math/bits.deBruijn32tab", laid_math_bits_deBruijn32tab), ("math/bits.deBruijn64tab", laid_math_bits_deBruijn64tab), ("internal/strconv.uint64pow10", laid_internal_strconv_uint64pow10), ("unicode.White_Space", laid_unicode_White_Space), ("strings.asciiSpace", laid_strings_asciiSpace), ("baize/code.operations", laid_baize_code_operations), ("baize/sorts.stmtParts", laid_baize_sorts_stmtParts), ("baize/sorts.exprParts", laid_baize_sorts_exprParts)], narrowed := true }
def TrialSilentUptoSaid : Prop := trialSilentUptoRow.holds Tryz.pinned (OpenSpec.upto trialSilentSpec)

/-- 'baizelaw36.TrialNews', WHERE WHAT IT READS IS OF BULK AT MOST 1048576: true; the input reads as it did. -/
def trialNewsUptoRow : OpenClaim := { program := "ytnhelcmddjbafaagreatdoor", sum := "5953d11fa385c5fbda6aab140c101b35fe3ab54fd61abe037e10bf7842ecd039", func := "baize/baizelaw36.TrialNews", spec := "trialNews", unfollowed := true, recurses := true, named := ["internal/strconv.uint64pow10", "math/bits.deBruijn32tab", "math/bits.deBruijn64tab", "baize/code.operations", "strings.asciiSpace", "unicode.White_Space", "baize/sorts.stmtParts", "baize/sorts.exprParts"], loops := true, apart := false, laid := [("math/bits.deBruijn32tab", laid_math_bits_deBruijn32tab), ("math/bits.deBruijn64tab", laid_math_bits_deBruijn64tab), ("internal/strconv.uint64pow10", laid_internal_strconv_uint64pow10), ("unicode.White_Space", laid_unicode_White_Space), ("strings.asciiSpace", laid_strings_asciiSpace), ("baize/code.operations", laid_baize_code_operations), ("baize/sorts.stmtParts", laid_baize_sorts_stmtParts), ("baize/sorts.exprParts", laid_baize_sorts_exprParts)], narrowed := true }
def TrialNewsUptoSaid : Prop := trialNewsUptoRow.holds Tryz.pinned (OpenSpec.upto trialNewsSpec)

/-- 'baizelaw36.TrialClones', WHERE WHAT IT READS IS OF BULK AT MOST 1048576: true; the input reads as it did. -/
def trialClonesUptoRow : OpenClaim := { program := "ytnhelcmddjbafaagreatdoor", sum := "5953d11fa385c5fbda6aab140c101b35fe3ab54fd61abe037e10bf7842ecd039", func := "baize/baizelaw36.TrialClones", spec := "trialClones", unfollowed := true, recurses := true, named := ["strings.asciiSpace", "unicode.White_Space", "baize/sorts.stmtParts", "baize/sorts.exprParts", "internal/strconv.uint64pow10", "math/bits.deBruijn32tab", "math/bits.deBruijn64tab", "baize/code.operations"], loops := true, apart := false, laid := [("math/bits.deBruijn32tab", laid_math_bits_deBruijn32tab), ("math/bits.deBruijn64tab", laid_math_bits_deBruijn64tab), ("internal/strconv.uint64pow10", laid_internal_strconv_uint64pow10), ("unicode.White_Space", laid_unicode_White_Space), ("strings.asciiSpace", laid_strings_asciiSpace), ("baize/code.operations", laid_baize_code_operations), ("baize/sorts.stmtParts", laid_baize_sorts_stmtParts), ("baize/sorts.exprParts", laid_baize_sorts_exprParts)], narrowed := true }
def TrialClonesUptoSaid : Prop := trialClonesUptoRow.holds Tryz.pinned (OpenSpec.upto trialClonesSpec)

/-- 'baizelaw36.TrialPacks', WHERE WHAT IT READS IS OF BULK AT MOST 1048576: true; the input reads as it did. -/
def trialPacksUptoRow : OpenClaim := { program := "ytnhelcmddjbafaagreatdoor", sum := "5953d11fa385c5fbda6aab140c101b35fe3ab54fd61abe037e10bf7842ecd039", func := "baize/baizelaw36.TrialPacks", spec := "trialPacks", unfollowed := true, recurses := true, named := ["strings.asciiSpace", "unicode.White_Space", "baize/sorts.stmtParts", "baize/sorts.exprParts", "internal/strconv.uint64pow10", "math/bits.deBruijn32tab", "math/bits.deBruijn64tab", "baize/code.operations"], apart := false, laid := [("math/bits.deBruijn32tab", laid_math_bits_deBruijn32tab), ("math/bits.deBruijn64tab", laid_math_bits_deBruijn64tab), ("internal/strconv.uint64pow10", laid_internal_strconv_uint64pow10), ("unicode.White_Space", laid_unicode_White_Space), ("strings.asciiSpace", laid_strings_asciiSpace), ("baize/code.operations", laid_baize_code_operations), ("baize/sorts.stmtParts", laid_baize_sorts_stmtParts), ("baize/sorts.exprParts", laid_baize_sorts_exprParts)], narrowed := true }
def TrialPacksUptoSaid : Prop := trialPacksUptoRow.holds Tryz.pinned (OpenSpec.upto trialPacksSpec)

end Rows
end Go.Proofs.YtnhelcmddjbafaaGreatDoor
