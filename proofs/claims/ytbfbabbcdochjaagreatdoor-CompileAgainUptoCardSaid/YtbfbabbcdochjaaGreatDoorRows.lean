/-
  NARROWER THAN 'FOR EVERY INPUT', by the rows' own cells (each row's printed sentence says how): CompileMeans: loops, laid · CompileWrong: loops, laid · CompileWhich: loops, laid · CompileRanges: loops, laid · CompilePays: loops, laid · CompileSteps: loops, laid · CompileAgain: loops, laid · CompileStates: loops, laid.
  DERIVED. THE GIVEN ROWS OF THIS SEAT. 8 by the template 'for every input the law returns true; each argument reads behind the call as it read before'; 0 by the template 'total and deterministic' (their statements: YtbfbabbcdochjaaGreatDoorTotals.lean).
  GIVEN WITH THE SEED: the statements are not yours to turn. If you find one false, say at which input.
  Laid BY PROGRAM, IN A SANDBOX (cutbox-rows.mjs): the forced cells as the released guide's own fill.sh prints them over the translation fd91ed5e1f209d75… (all of the seat's roots in one cut). By AI agents, Wed Nov 11 2026. No macro, syntax, notation, axiom, sorry.
-/
import Derived.Test.YtbfbabbcdochjaaGreatDoorChecked
import GoSem.Claim
import GoSem.ClaimJoined
import GoSem.ClaimMapViews
import Derived.JoinedTies
import Derived.KernelRfl
namespace Go.Proofs.YtbfbabbcdochjaaGreatDoor
/- THE CELL 'sum', in the pinned program and in every row, IS THE sha256 OF THE DUMP (.gsa) THAT YtbfbabbcdochjaaGreatDoorProg.lean LOADS. Nothing in Lean hashes anything: it is a label: what it is worth is what the hold of that sum in a sandbox is worth. -/
noncomputable def Tryz.pinned : Pinned := { name := "ytbfbabbcdochjaagreatdoor", sum := "fd91ed5e1f209d750cdcba5eb99c3cf08311235a361b28e72f212535ab772951", checked := Tryz.checked }
namespace Rows
def none {H : Type} : Left H := { results := [], args := [] }

/- WHAT THE LISTED PACKAGE-LEVEL VARIABLES READ AS WHEN THE CALL BEGINS. Each datum BY PROGRAM (the guide's laid-datum.mjs) off the statement by which the dump's own 'gosem.cut.vars' lays the variable. In a bare row this is a premise. The card (YtbfbabbcdochjaaGreatDoorCards.lean) ties it to the program's text. -/
def laid_unicode_White_Space {H : Type} : DataW H := .ptr (.agg [.slice [.agg [.lit (.int .u16 9), .lit (.int .u16 13), .lit (.int .u16 1)], .agg [.lit (.int .u16 32), .lit (.int .u16 133), .lit (.int .u16 101)], .agg [.lit (.int .u16 160), .lit (.int .u16 5760), .lit (.int .u16 5600)], .agg [.lit (.int .u16 8192), .lit (.int .u16 8202), .lit (.int .u16 1)], .agg [.lit (.int .u16 8232), .lit (.int .u16 8233), .lit (.int .u16 1)], .agg [.lit (.int .u16 8239), .lit (.int .u16 8287), .lit (.int .u16 48)], .agg [.lit (.int .u16 12288), .lit (.int .u16 12288), .lit (.int .u16 1)]] [], .nil, .lit (.int .i64 2)])
def laid_strings_asciiSpace {H : Type} : DataW H := .agg [.lit (.int .u8 0), .lit (.int .u8 0), .lit (.int .u8 0), .lit (.int .u8 0), .lit (.int .u8 0), .lit (.int .u8 0), .lit (.int .u8 0), .lit (.int .u8 0), .lit (.int .u8 0), .lit (.int .u8 1), .lit (.int .u8 1), .lit (.int .u8 1), .lit (.int .u8 1), .lit (.int .u8 1), .lit (.int .u8 0), .lit (.int .u8 0), .lit (.int .u8 0), .lit (.int .u8 0), .lit (.int .u8 0), .lit (.int .u8 0), .lit (.int .u8 0), .lit (.int .u8 0), .lit (.int .u8 0), .lit (.int .u8 0), .lit (.int .u8 0), .lit (.int .u8 0), .lit (.int .u8 0), .lit (.int .u8 0), .lit (.int .u8 0), .lit (.int .u8 0), .lit (.int .u8 0), .lit (.int .u8 0), .lit (.int .u8 1), .lit (.int .u8 0), .lit (.int .u8 0), .lit (.int .u8 0), .lit (.int .u8 0), .lit (.int .u8 0), .lit (.int .u8 0), .lit (.int .u8 0), .lit (.int .u8 0), .lit (.int .u8 0), .lit (.int .u8 0), .lit (.int .u8 0), .lit (.int .u8 0), .lit (.int .u8 0), .lit (.int .u8 0), .lit (.int .u8 0), .lit (.int .u8 0), .lit (.int .u8 0), .lit (.int .u8 0), .lit (.int .u8 0), .lit (.int .u8 0), .lit (.int .u8 0), .lit (.int .u8 0), .lit (.int .u8 0), .lit (.int .u8 0), .lit (.int .u8 0), .lit (.int .u8 0), .lit (.int .u8 0), .lit (.int .u8 0), .lit (.int .u8 0), .lit (.int .u8 0), .lit (.int .u8 0), .lit (.int .u8 0), .lit (.int .u8 0), .lit (.int .u8 0), .lit (.int .u8 0), .lit (.int .u8 0), .lit (.int .u8 0), .lit (.int .u8 0), .lit (.int .u8 0), .lit (.int .u8 0), .lit (.int .u8 0), .lit (.int .u8 0), .lit (.int .u8 0), .lit (.int .u8 0), .lit (.int .u8 0), .lit (.int .u8 0), .lit (.int .u8 0), .lit (.int .u8 0), .lit (.int .u8 0), .lit (.int .u8 0), .lit (.int .u8 0), .lit (.int .u8 0), .lit (.int .u8 0), .lit (.int .u8 0), .lit (.int .u8 0), .lit (.int .u8 0), .lit (.int .u8 0), .lit (.int .u8 0), .lit (.int .u8 0), .lit (.int .u8 0), .lit (.int .u8 0), .lit (.int .u8 0), .lit (.int .u8 0), .lit (.int .u8 0), .lit (.int .u8 0), .lit (.int .u8 0), .lit (.int .u8 0), .lit (.int .u8 0), .lit (.int .u8 0), .lit (.int .u8 0), .lit (.int .u8 0), .lit (.int .u8 0), .lit (.int .u8 0), .lit (.int .u8 0), .lit (.int .u8 0), .lit (.int .u8 0), .lit (.int .u8 0), .lit (.int .u8 0), .lit (.int .u8 0), .lit (.int .u8 0), .lit (.int .u8 0), .lit (.int .u8 0), .lit (.int .u8 0), .lit (.int .u8 0), .lit (.int .u8 0), .lit (.int .u8 0), .lit (.int .u8 0), .lit (.int .u8 0), .lit (.int .u8 0), .lit (.int .u8 0), .lit (.int .u8 0), .lit (.int .u8 0), .lit (.int .u8 0), .lit (.int .u8 0), .lit (.int .u8 0), .lit (.int .u8 0), .lit (.int .u8 0), .lit (.int .u8 0), .lit (.int .u8 0), .lit (.int .u8 0), .lit (.int .u8 0), .lit (.int .u8 0), .lit (.int .u8 0), .lit (.int .u8 0), .lit (.int .u8 0), .lit (.int .u8 0), .lit (.int .u8 0), .lit (.int .u8 0), .lit (.int .u8 0), .lit (.int .u8 0), .lit (.int .u8 0), .lit (.int .u8 0), .lit (.int .u8 0), .lit (.int .u8 0), .lit (.int .u8 0), .lit (.int .u8 0), .lit (.int .u8 0), .lit (.int .u8 0), .lit (.int .u8 0), .lit (.int .u8 0), .lit (.int .u8 0), .lit (.int .u8 0), .lit (.int .u8 0), .lit (.int .u8 0), .lit (.int .u8 0), .lit (.int .u8 0), .lit (.int .u8 0), .lit (.int .u8 0), .lit (.int .u8 0), .lit (.int .u8 0), .lit (.int .u8 0), .lit (.int .u8 0), .lit (.int .u8 0), .lit (.int .u8 0), .lit (.int .u8 0), .lit (.int .u8 0), .lit (.int .u8 0), .lit (.int .u8 0), .lit (.int .u8 0), .lit (.int .u8 0), .lit (.int .u8 0), .lit (.int .u8 0), .lit (.int .u8 0), .lit (.int .u8 0), .lit (.int .u8 0), .lit (.int .u8 0), .lit (.int .u8 0), .lit (.int .u8 0), .lit (.int .u8 0), .lit (.int .u8 0), .lit (.int .u8 0), .lit (.int .u8 0), .lit (.int .u8 0), .lit (.int .u8 0), .lit (.int .u8 0), .lit (.int .u8 0), .lit (.int .u8 0), .lit (.int .u8 0), .lit (.int .u8 0), .lit (.int .u8 0), .lit (.int .u8 0), .lit (.int .u8 0), .lit (.int .u8 0), .lit (.int .u8 0), .lit (.int .u8 0), .lit (.int .u8 0), .lit (.int .u8 0), .lit (.int .u8 0), .lit (.int .u8 0), .lit (.int .u8 0), .lit (.int .u8 0), .lit (.int .u8 0), .lit (.int .u8 0), .lit (.int .u8 0), .lit (.int .u8 0), .lit (.int .u8 0), .lit (.int .u8 0), .lit (.int .u8 0), .lit (.int .u8 0), .lit (.int .u8 0), .lit (.int .u8 0), .lit (.int .u8 0), .lit (.int .u8 0), .lit (.int .u8 0), .lit (.int .u8 0), .lit (.int .u8 0), .lit (.int .u8 0), .lit (.int .u8 0), .lit (.int .u8 0), .lit (.int .u8 0), .lit (.int .u8 0), .lit (.int .u8 0), .lit (.int .u8 0), .lit (.int .u8 0), .lit (.int .u8 0), .lit (.int .u8 0), .lit (.int .u8 0), .lit (.int .u8 0), .lit (.int .u8 0), .lit (.int .u8 0), .lit (.int .u8 0), .lit (.int .u8 0), .lit (.int .u8 0), .lit (.int .u8 0), .lit (.int .u8 0), .lit (.int .u8 0), .lit (.int .u8 0), .lit (.int .u8 0), .lit (.int .u8 0), .lit (.int .u8 0), .lit (.int .u8 0), .lit (.int .u8 0), .lit (.int .u8 0), .lit (.int .u8 0), .lit (.int .u8 0), .lit (.int .u8 0), .lit (.int .u8 0), .lit (.int .u8 0), .lit (.int .u8 0), .lit (.int .u8 0), .lit (.int .u8 0), .lit (.int .u8 0), .lit (.int .u8 0)]
def laid_baize_code_operations {H : Type} : DataW H := .agg [.agg [.lit (.string [104, 97, 108, 116]), .lit (.string [110])], .agg [.lit (.string [115, 101, 116]), .lit (.string [119, 110])], .agg [.lit (.string [109, 111, 118, 101]), .lit (.string [119, 119])], .agg [.lit (.string [97, 100, 100]), .lit (.string [119, 119, 119])], .agg [.lit (.string [115, 117, 98]), .lit (.string [119, 119, 119])], .agg [.lit (.string [109, 117, 108]), .lit (.string [119, 119, 119])], .agg [.lit (.string [100, 105, 118]), .lit (.string [119, 119, 119])], .agg [.lit (.string [114, 101, 109]), .lit (.string [119, 119, 119])], .agg [.lit (.string [101, 113]), .lit (.string [119, 119, 119])], .agg [.lit (.string [110, 101]), .lit (.string [119, 119, 119])], .agg [.lit (.string [108, 116]), .lit (.string [119, 119, 119])], .agg [.lit (.string [108, 101]), .lit (.string [119, 119, 119])], .agg [.lit (.string [97, 110, 100]), .lit (.string [119, 119, 119])], .agg [.lit (.string [111, 114]), .lit (.string [119, 119, 119])], .agg [.lit (.string [110, 111, 116]), .lit (.string [119, 119])], .agg [.lit (.string [108, 111, 97, 100]), .lit (.string [119, 119, 119])], .agg [.lit (.string [115, 116, 111, 114, 101]), .lit (.string [119, 119, 119])], .agg [.lit (.string [99, 117, 116]), .lit (.string [119, 110, 110])], .agg [.lit (.string [119, 105, 116, 104, 105, 110]), .lit (.string [119, 119, 110])], .agg [.lit (.string [106, 117, 109, 112]), .lit (.string [112])], .agg [.lit (.string [106, 122]), .lit (.string [112, 119])], .agg [.lit (.string [106, 110, 122]), .lit (.string [112, 119])]]
def laid_baize_sorts_stmtParts {H : Type} : DataW H := .agg [.lit (.int .i64 1), .lit (.int .i64 2), .lit (.int .i64 1), .lit (.int .i64 0), .lit (.int .i64 0), .lit (.int .i64 0), .lit (.int .i64 1), .lit (.int .i64 0), .lit (.int .i64 2), .lit (.int .i64 1)]
def laid_baize_sorts_exprParts {H : Type} : DataW H := .agg [.lit (.int .i64 0), .lit (.int .i64 0), .lit (.int .i64 1), .lit (.int .i64 1), .lit (.int .i64 1), .lit (.int .i64 2), .lit (.int .i64 2), .lit (.int .i64 2), .lit (.int .i64 2), .lit (.int .i64 2), .lit (.int .i64 2), .lit (.int .i64 2), .lit (.int .i64 2), .lit (.int .i64 2), .lit (.int .i64 2), .lit (.int .i64 2), .lit (.int .i64 2), .lit (.int .i64 2)]

/-- 'baizelaw16.CompileMeans': WHATEVER THE INPUT: true; the input reads as it did. -/
def compileMeansSpec : ChangeSpec := { name := "compileMeans", fn := fun _ => fun
  | [d1, d2, d3] => { results := [.lit (.bool true)], args := [d1, d2, d3] }
  | _ => none }
def compileMeansRow : OpenClaim := { program := "ytbfbabbcdochjaagreatdoor", sum := "fd91ed5e1f209d750cdcba5eb99c3cf08311235a361b28e72f212535ab772951", func := "baize/baizelaw16.CompileMeans", spec := "compileMeans", unfollowed := true, recurses := true, named := ["strings.asciiSpace", "unicode.White_Space", "baize/sorts.stmtParts", "baize/sorts.exprParts", "baize/code.operations"], loops := true, apart := false, laid := [("unicode.White_Space", laid_unicode_White_Space), ("strings.asciiSpace", laid_strings_asciiSpace), ("baize/code.operations", laid_baize_code_operations), ("baize/sorts.stmtParts", laid_baize_sorts_stmtParts), ("baize/sorts.exprParts", laid_baize_sorts_exprParts)] }
def CompileMeansSaid : Prop := compileMeansRow.holds Tryz.pinned (OpenSpec.ofChange compileMeansSpec)

/-- ITS FALSE NEIGHBOUR: 'it returns false'. Refute it at one input. -/
def compileMeansWrong : ChangeSpec := { name := "compileMeans", fn := fun _ => fun
  | [d1, d2, d3] => { results := [.lit (.bool false)], args := [d1, d2, d3] }
  | _ => none }
def CompileMeansWrongFalsely : Prop := compileMeansRow.holds Tryz.pinned (OpenSpec.ofChange compileMeansWrong)

/-- 'baizelaw16.CompileWrong': WHATEVER THE INPUT: true; the input reads as it did. -/
def compileWrongSpec : ChangeSpec := { name := "compileWrong", fn := fun _ => fun
  | [d1, d2, d3] => { results := [.lit (.bool true)], args := [d1, d2, d3] }
  | _ => none }
def compileWrongRow : OpenClaim := { program := "ytbfbabbcdochjaagreatdoor", sum := "fd91ed5e1f209d750cdcba5eb99c3cf08311235a361b28e72f212535ab772951", func := "baize/baizelaw16.CompileWrong", spec := "compileWrong", unfollowed := true, recurses := true, named := ["strings.asciiSpace", "unicode.White_Space", "baize/sorts.stmtParts", "baize/sorts.exprParts", "baize/code.operations"], loops := true, apart := false, laid := [("unicode.White_Space", laid_unicode_White_Space), ("strings.asciiSpace", laid_strings_asciiSpace), ("baize/code.operations", laid_baize_code_operations), ("baize/sorts.stmtParts", laid_baize_sorts_stmtParts), ("baize/sorts.exprParts", laid_baize_sorts_exprParts)] }
def CompileWrongSaid : Prop := compileWrongRow.holds Tryz.pinned (OpenSpec.ofChange compileWrongSpec)

/-- ITS FALSE NEIGHBOUR: 'it returns false'. Refute it at one input. -/
def compileWrongWrong : ChangeSpec := { name := "compileWrong", fn := fun _ => fun
  | [d1, d2, d3] => { results := [.lit (.bool false)], args := [d1, d2, d3] }
  | _ => none }
def CompileWrongWrongFalsely : Prop := compileWrongRow.holds Tryz.pinned (OpenSpec.ofChange compileWrongWrong)

/-- 'baizelaw16.CompileWhich': WHATEVER THE INPUT: true; the input reads as it did. -/
def compileWhichSpec : ChangeSpec := { name := "compileWhich", fn := fun _ => fun
  | [d] => { results := [.lit (.bool true)], args := [d] }
  | _ => none }
def compileWhichRow : OpenClaim := { program := "ytbfbabbcdochjaagreatdoor", sum := "fd91ed5e1f209d750cdcba5eb99c3cf08311235a361b28e72f212535ab772951", func := "baize/baizelaw16.CompileWhich", spec := "compileWhich", unfollowed := true, recurses := true, named := ["strings.asciiSpace", "unicode.White_Space", "baize/sorts.stmtParts", "baize/sorts.exprParts", "baize/code.operations"], loops := true, apart := false, laid := [("unicode.White_Space", laid_unicode_White_Space), ("strings.asciiSpace", laid_strings_asciiSpace), ("baize/code.operations", laid_baize_code_operations), ("baize/sorts.stmtParts", laid_baize_sorts_stmtParts), ("baize/sorts.exprParts", laid_baize_sorts_exprParts)] }
def CompileWhichSaid : Prop := compileWhichRow.holds Tryz.pinned (OpenSpec.ofChange compileWhichSpec)

/-- ITS FALSE NEIGHBOUR: 'it returns false'. Refute it at one input. -/
def compileWhichWrong : ChangeSpec := { name := "compileWhich", fn := fun _ => fun
  | [d] => { results := [.lit (.bool false)], args := [d] }
  | _ => none }
def CompileWhichWrongFalsely : Prop := compileWhichRow.holds Tryz.pinned (OpenSpec.ofChange compileWhichWrong)

/-- 'baizelaw16.CompileRanges': WHATEVER THE INPUT: true; the input reads as it did. -/
def compileRangesSpec : ChangeSpec := { name := "compileRanges", fn := fun _ => fun
  | [d1, d2] => { results := [.lit (.bool true)], args := [d1, d2] }
  | _ => none }
def compileRangesRow : OpenClaim := { program := "ytbfbabbcdochjaagreatdoor", sum := "fd91ed5e1f209d750cdcba5eb99c3cf08311235a361b28e72f212535ab772951", func := "baize/baizelaw16.CompileRanges", spec := "compileRanges", unfollowed := true, recurses := true, named := ["strings.asciiSpace", "unicode.White_Space", "baize/sorts.stmtParts", "baize/sorts.exprParts", "baize/code.operations"], loops := true, apart := false, laid := [("unicode.White_Space", laid_unicode_White_Space), ("strings.asciiSpace", laid_strings_asciiSpace), ("baize/code.operations", laid_baize_code_operations), ("baize/sorts.stmtParts", laid_baize_sorts_stmtParts), ("baize/sorts.exprParts", laid_baize_sorts_exprParts)] }
def CompileRangesSaid : Prop := compileRangesRow.holds Tryz.pinned (OpenSpec.ofChange compileRangesSpec)

/-- ITS FALSE NEIGHBOUR: 'it returns false'. Refute it at one input. -/
def compileRangesWrong : ChangeSpec := { name := "compileRanges", fn := fun _ => fun
  | [d1, d2] => { results := [.lit (.bool false)], args := [d1, d2] }
  | _ => none }
def CompileRangesWrongFalsely : Prop := compileRangesRow.holds Tryz.pinned (OpenSpec.ofChange compileRangesWrong)

/-- 'baizelaw16.CompilePays': WHATEVER THE INPUT: true; the input reads as it did. -/
def compilePaysSpec : ChangeSpec := { name := "compilePays", fn := fun _ => fun
  | [d1, d2] => { results := [.lit (.bool true)], args := [d1, d2] }
  | _ => none }
def compilePaysRow : OpenClaim := { program := "ytbfbabbcdochjaagreatdoor", sum := "fd91ed5e1f209d750cdcba5eb99c3cf08311235a361b28e72f212535ab772951", func := "baize/baizelaw16.CompilePays", spec := "compilePays", unfollowed := true, recurses := true, named := ["strings.asciiSpace", "unicode.White_Space", "baize/sorts.stmtParts", "baize/sorts.exprParts", "baize/code.operations"], loops := true, apart := false, laid := [("unicode.White_Space", laid_unicode_White_Space), ("strings.asciiSpace", laid_strings_asciiSpace), ("baize/code.operations", laid_baize_code_operations), ("baize/sorts.stmtParts", laid_baize_sorts_stmtParts), ("baize/sorts.exprParts", laid_baize_sorts_exprParts)] }
def CompilePaysSaid : Prop := compilePaysRow.holds Tryz.pinned (OpenSpec.ofChange compilePaysSpec)

/-- ITS FALSE NEIGHBOUR: 'it returns false'. Refute it at one input. -/
def compilePaysWrong : ChangeSpec := { name := "compilePays", fn := fun _ => fun
  | [d1, d2] => { results := [.lit (.bool false)], args := [d1, d2] }
  | _ => none }
def CompilePaysWrongFalsely : Prop := compilePaysRow.holds Tryz.pinned (OpenSpec.ofChange compilePaysWrong)

/-- 'baizelaw16.CompileSteps': WHATEVER THE INPUT: true; the input reads as it did. -/
def compileStepsSpec : ChangeSpec := { name := "compileSteps", fn := fun _ => fun
  | [d1, d2] => { results := [.lit (.bool true)], args := [d1, d2] }
  | _ => none }
def compileStepsRow : OpenClaim := { program := "ytbfbabbcdochjaagreatdoor", sum := "fd91ed5e1f209d750cdcba5eb99c3cf08311235a361b28e72f212535ab772951", func := "baize/baizelaw16.CompileSteps", spec := "compileSteps", unfollowed := true, recurses := true, named := ["strings.asciiSpace", "unicode.White_Space", "baize/sorts.stmtParts", "baize/sorts.exprParts", "baize/code.operations"], loops := true, apart := false, laid := [("unicode.White_Space", laid_unicode_White_Space), ("strings.asciiSpace", laid_strings_asciiSpace), ("baize/code.operations", laid_baize_code_operations), ("baize/sorts.stmtParts", laid_baize_sorts_stmtParts), ("baize/sorts.exprParts", laid_baize_sorts_exprParts)] }
def CompileStepsSaid : Prop := compileStepsRow.holds Tryz.pinned (OpenSpec.ofChange compileStepsSpec)

/-- ITS FALSE NEIGHBOUR: 'it returns false'. Refute it at one input. -/
def compileStepsWrong : ChangeSpec := { name := "compileSteps", fn := fun _ => fun
  | [d1, d2] => { results := [.lit (.bool false)], args := [d1, d2] }
  | _ => none }
def CompileStepsWrongFalsely : Prop := compileStepsRow.holds Tryz.pinned (OpenSpec.ofChange compileStepsWrong)

/-- 'baizelaw16.CompileAgain': WHATEVER THE INPUT: true; the input reads as it did. -/
def compileAgainSpec : ChangeSpec := { name := "compileAgain", fn := fun _ => fun
  | [d1, d2, d3] => { results := [.lit (.bool true)], args := [d1, d2, d3] }
  | _ => none }
def compileAgainRow : OpenClaim := { program := "ytbfbabbcdochjaagreatdoor", sum := "fd91ed5e1f209d750cdcba5eb99c3cf08311235a361b28e72f212535ab772951", func := "baize/baizelaw16.CompileAgain", spec := "compileAgain", unfollowed := true, recurses := true, named := ["strings.asciiSpace", "unicode.White_Space", "baize/sorts.stmtParts", "baize/sorts.exprParts", "baize/code.operations"], loops := true, apart := false, laid := [("unicode.White_Space", laid_unicode_White_Space), ("strings.asciiSpace", laid_strings_asciiSpace), ("baize/code.operations", laid_baize_code_operations), ("baize/sorts.stmtParts", laid_baize_sorts_stmtParts), ("baize/sorts.exprParts", laid_baize_sorts_exprParts)] }
def CompileAgainSaid : Prop := compileAgainRow.holds Tryz.pinned (OpenSpec.ofChange compileAgainSpec)

/-- ITS FALSE NEIGHBOUR: 'it returns false'. Refute it at one input. -/
def compileAgainWrong : ChangeSpec := { name := "compileAgain", fn := fun _ => fun
  | [d1, d2, d3] => { results := [.lit (.bool false)], args := [d1, d2, d3] }
  | _ => none }
def CompileAgainWrongFalsely : Prop := compileAgainRow.holds Tryz.pinned (OpenSpec.ofChange compileAgainWrong)

/-- 'baizelaw16.CompileStates': WHATEVER THE INPUT: true; the input reads as it did. -/
def compileStatesSpec : ChangeSpec := { name := "compileStates", fn := fun _ => fun
  | [d1, d2, d3] => { results := [.lit (.bool true)], args := [d1, d2, d3] }
  | _ => none }
def compileStatesRow : OpenClaim := { program := "ytbfbabbcdochjaagreatdoor", sum := "fd91ed5e1f209d750cdcba5eb99c3cf08311235a361b28e72f212535ab772951", func := "baize/baizelaw16.CompileStates", spec := "compileStates", unfollowed := true, recurses := true, named := ["strings.asciiSpace", "unicode.White_Space", "baize/sorts.stmtParts", "baize/sorts.exprParts", "baize/code.operations"], loops := true, apart := false, laid := [("unicode.White_Space", laid_unicode_White_Space), ("strings.asciiSpace", laid_strings_asciiSpace), ("baize/code.operations", laid_baize_code_operations), ("baize/sorts.stmtParts", laid_baize_sorts_stmtParts), ("baize/sorts.exprParts", laid_baize_sorts_exprParts)] }
def CompileStatesSaid : Prop := compileStatesRow.holds Tryz.pinned (OpenSpec.ofChange compileStatesSpec)

/-- ITS FALSE NEIGHBOUR: 'it returns false'. Refute it at one input. -/
def compileStatesWrong : ChangeSpec := { name := "compileStates", fn := fun _ => fun
  | [d1, d2, d3] => { results := [.lit (.bool false)], args := [d1, d2, d3] }
  | _ => none }
def CompileStatesWrongFalsely : Prop := compileStatesRow.holds Tryz.pinned (OpenSpec.ofChange compileStatesWrong)

/- THE SECOND FORM. 'bulk': how many values and letters a reading holds, each counted each time it is reached (what is shared counts as often as it is met; a slice's spare places count too). A statement '..UptoSaid' is the law's where the arguments, and the package variables that the reading takes, are together of bulk at most 1048576: NARROWER than '..Said'. Prove '..Said' where nothing that the law and all that it calls make is longer than what came in: it says more and counts as full. Else prove '..UptoSaid'. A law counts once. -/
mutual
def uptoBulk {H : Type} : DataW H → Nat
  | .lit (.string bytes) => bytes.length + 1
  | .lit _ => 1
  | .nil => 1
  | .ptr d => uptoBulk d + 1
  | .slice elems spare => uptoBulkAll elems + uptoBulkAll spare + 1
  | .agg parts => uptoBulkAll parts + 1
  | .iface _ d => uptoBulk d + 1
  | .map entries => uptoBulkEntries entries + 1
  | .held _ => 1
def uptoBulkAll {H : Type} : List (DataW H) → Nat
  | [] => 0
  | d :: r => uptoBulk d + uptoBulkAll r
def uptoBulkEntries {H : Type} : List (Lit × DataW H) → Nat
  | [] => 0
  | x :: r => uptoBulkEntry x + uptoBulkEntries r
def uptoBulkEntry {H : Type} : Lit × DataW H → Nat
  | (.string bytes, d) => bytes.length + uptoBulk d + 1
  | (_, d) => uptoBulk d + 1
 end
def uptoSmall : (H : Type) → List (DataW H) → Bool := fun _ ds => decide (uptoBulkAll ds ≤ 1048576)
def OpenSpec.upto (s : _root_.Go.ChangeSpec) : _root_.Go.OpenSpec := { _root_.Go.OpenSpec.ofChange s with cond := some uptoSmall }

/-- 'baizelaw16.CompileMeans', WHERE WHAT IT READS IS OF BULK AT MOST 1048576: true; the input reads as it did. -/
def compileMeansUptoRow : OpenClaim := { program := "ytbfbabbcdochjaagreatdoor", sum := "fd91ed5e1f209d750cdcba5eb99c3cf08311235a361b28e72f212535ab772951", func := "baize/baizelaw16.CompileMeans", spec := "compileMeans", unfollowed := true, recurses := true, named := ["strings.asciiSpace", "unicode.White_Space", "baize/sorts.stmtParts", "baize/sorts.exprParts", "baize/code.operations"], loops := true, apart := false, laid := [("unicode.White_Space", laid_unicode_White_Space), ("strings.asciiSpace", laid_strings_asciiSpace), ("baize/code.operations", laid_baize_code_operations), ("baize/sorts.stmtParts", laid_baize_sorts_stmtParts), ("baize/sorts.exprParts", laid_baize_sorts_exprParts)], narrowed := true }
def CompileMeansUptoSaid : Prop := compileMeansUptoRow.holds Tryz.pinned (OpenSpec.upto compileMeansSpec)

/-- 'baizelaw16.CompileWrong', WHERE WHAT IT READS IS OF BULK AT MOST 1048576: true; the input reads as it did. -/
def compileWrongUptoRow : OpenClaim := { program := "ytbfbabbcdochjaagreatdoor", sum := "fd91ed5e1f209d750cdcba5eb99c3cf08311235a361b28e72f212535ab772951", func := "baize/baizelaw16.CompileWrong", spec := "compileWrong", unfollowed := true, recurses := true, named := ["strings.asciiSpace", "unicode.White_Space", "baize/sorts.stmtParts", "baize/sorts.exprParts", "baize/code.operations"], loops := true, apart := false, laid := [("unicode.White_Space", laid_unicode_White_Space), ("strings.asciiSpace", laid_strings_asciiSpace), ("baize/code.operations", laid_baize_code_operations), ("baize/sorts.stmtParts", laid_baize_sorts_stmtParts), ("baize/sorts.exprParts", laid_baize_sorts_exprParts)], narrowed := true }
def CompileWrongUptoSaid : Prop := compileWrongUptoRow.holds Tryz.pinned (OpenSpec.upto compileWrongSpec)

/-- 'baizelaw16.CompileWhich', WHERE WHAT IT READS IS OF BULK AT MOST 1048576: true; the input reads as it did. -/
def compileWhichUptoRow : OpenClaim := { program := "ytbfbabbcdochjaagreatdoor", sum := "fd91ed5e1f209d750cdcba5eb99c3cf08311235a361b28e72f212535ab772951", func := "baize/baizelaw16.CompileWhich", spec := "compileWhich", unfollowed := true, recurses := true, named := ["strings.asciiSpace", "unicode.White_Space", "baize/sorts.stmtParts", "baize/sorts.exprParts", "baize/code.operations"], loops := true, apart := false, laid := [("unicode.White_Space", laid_unicode_White_Space), ("strings.asciiSpace", laid_strings_asciiSpace), ("baize/code.operations", laid_baize_code_operations), ("baize/sorts.stmtParts", laid_baize_sorts_stmtParts), ("baize/sorts.exprParts", laid_baize_sorts_exprParts)], narrowed := true }
def CompileWhichUptoSaid : Prop := compileWhichUptoRow.holds Tryz.pinned (OpenSpec.upto compileWhichSpec)

/-- 'baizelaw16.CompileRanges', WHERE WHAT IT READS IS OF BULK AT MOST 1048576: true; the input reads as it did. -/
def compileRangesUptoRow : OpenClaim := { program := "ytbfbabbcdochjaagreatdoor", sum := "fd91ed5e1f209d750cdcba5eb99c3cf08311235a361b28e72f212535ab772951", func := "baize/baizelaw16.CompileRanges", spec := "compileRanges", unfollowed := true, recurses := true, named := ["strings.asciiSpace", "unicode.White_Space", "baize/sorts.stmtParts", "baize/sorts.exprParts", "baize/code.operations"], loops := true, apart := false, laid := [("unicode.White_Space", laid_unicode_White_Space), ("strings.asciiSpace", laid_strings_asciiSpace), ("baize/code.operations", laid_baize_code_operations), ("baize/sorts.stmtParts", laid_baize_sorts_stmtParts), ("baize/sorts.exprParts", laid_baize_sorts_exprParts)], narrowed := true }
def CompileRangesUptoSaid : Prop := compileRangesUptoRow.holds Tryz.pinned (OpenSpec.upto compileRangesSpec)

/-- 'baizelaw16.CompilePays', WHERE WHAT IT READS IS OF BULK AT MOST 1048576: true; the input reads as it did. -/
def compilePaysUptoRow : OpenClaim := { program := "ytbfbabbcdochjaagreatdoor", sum := "fd91ed5e1f209d750cdcba5eb99c3cf08311235a361b28e72f212535ab772951", func := "baize/baizelaw16.CompilePays", spec := "compilePays", unfollowed := true, recurses := true, named := ["strings.asciiSpace", "unicode.White_Space", "baize/sorts.stmtParts", "baize/sorts.exprParts", "baize/code.operations"], loops := true, apart := false, laid := [("unicode.White_Space", laid_unicode_White_Space), ("strings.asciiSpace", laid_strings_asciiSpace), ("baize/code.operations", laid_baize_code_operations), ("baize/sorts.stmtParts", laid_baize_sorts_stmtParts), ("baize/sorts.exprParts", laid_baize_sorts_exprParts)], narrowed := true }
def CompilePaysUptoSaid : Prop := compilePaysUptoRow.holds Tryz.pinned (OpenSpec.upto compilePaysSpec)

/-- 'baizelaw16.CompileSteps', WHERE WHAT IT READS IS OF BULK AT MOST 1048576: true; the input reads as it did. -/
def compileStepsUptoRow : OpenClaim := { program := "ytbfbabbcdochjaagreatdoor", sum := "fd91ed5e1f209d750cdcba5eb99c3cf08311235a361b28e72f212535ab772951", func := "baize/baizelaw16.CompileSteps", spec := "compileSteps", unfollowed := true, recurses := true, named := ["strings.asciiSpace", "unicode.White_Space", "baize/sorts.stmtParts", "baize/sorts.exprParts", "baize/code.operations"], loops := true, apart := false, laid := [("unicode.White_Space", laid_unicode_White_Space), ("strings.asciiSpace", laid_strings_asciiSpace), ("baize/code.operations", laid_baize_code_operations), ("baize/sorts.stmtParts", laid_baize_sorts_stmtParts), ("baize/sorts.exprParts", laid_baize_sorts_exprParts)], narrowed := true }
def CompileStepsUptoSaid : Prop := compileStepsUptoRow.holds Tryz.pinned (OpenSpec.upto compileStepsSpec)

/-- 'baizelaw16.CompileAgain', WHERE WHAT IT READS IS OF BULK AT MOST 1048576: true; the input reads as it did. -/
def compileAgainUptoRow : OpenClaim := { program := "ytbfbabbcdochjaagreatdoor", sum := "fd91ed5e1f209d750cdcba5eb99c3cf08311235a361b28e72f212535ab772951", func := "baize/baizelaw16.CompileAgain", spec := "compileAgain", unfollowed := true, recurses := true, named := ["strings.asciiSpace", "unicode.White_Space", "baize/sorts.stmtParts", "baize/sorts.exprParts", "baize/code.operations"], loops := true, apart := false, laid := [("unicode.White_Space", laid_unicode_White_Space), ("strings.asciiSpace", laid_strings_asciiSpace), ("baize/code.operations", laid_baize_code_operations), ("baize/sorts.stmtParts", laid_baize_sorts_stmtParts), ("baize/sorts.exprParts", laid_baize_sorts_exprParts)], narrowed := true }
def CompileAgainUptoSaid : Prop := compileAgainUptoRow.holds Tryz.pinned (OpenSpec.upto compileAgainSpec)

/-- 'baizelaw16.CompileStates', WHERE WHAT IT READS IS OF BULK AT MOST 1048576: true; the input reads as it did. -/
def compileStatesUptoRow : OpenClaim := { program := "ytbfbabbcdochjaagreatdoor", sum := "fd91ed5e1f209d750cdcba5eb99c3cf08311235a361b28e72f212535ab772951", func := "baize/baizelaw16.CompileStates", spec := "compileStates", unfollowed := true, recurses := true, named := ["strings.asciiSpace", "unicode.White_Space", "baize/sorts.stmtParts", "baize/sorts.exprParts", "baize/code.operations"], loops := true, apart := false, laid := [("unicode.White_Space", laid_unicode_White_Space), ("strings.asciiSpace", laid_strings_asciiSpace), ("baize/code.operations", laid_baize_code_operations), ("baize/sorts.stmtParts", laid_baize_sorts_stmtParts), ("baize/sorts.exprParts", laid_baize_sorts_exprParts)], narrowed := true }
def CompileStatesUptoSaid : Prop := compileStatesUptoRow.holds Tryz.pinned (OpenSpec.upto compileStatesSpec)

end Rows
end Go.Proofs.YtbfbabbcdochjaaGreatDoor
