/-
  NARROWER THAN 'FOR EVERY INPUT', by the rows' own cells (each row's printed sentence says how): SortsPlaces: loops, laid · SortsUnknown: loops, laid · SortsFirst: loops, laid · SortsEnds: loops, laid · SortsScopes: loops, laid · SortsCells: loops, laid · SortsOwn: loops, laid.
  DERIVED. THE GIVEN ROWS OF THIS SEAT. 7 by the template 'for every input the law returns true; each argument reads behind the call as it read before'; 0 by the template 'total and deterministic' (their statements: YtfamkemdgbnegaaDoorTotals.lean).
  GIVEN WITH THE SEED: the statements are not yours to turn. If you find one false, say at which input.
  Laid BY PROGRAM, IN A SANDBOX (cutbox-rows.mjs): the forced cells as the released guide's own fill.sh prints them over the translation 94a9770d37f2179c… (all of the seat's roots in one cut). By AI agents, Wed Nov 11 2026. No macro, syntax, notation, axiom, sorry.
-/
import Derived.Test.YtfamkemdgbnegaaDoorChecked
import GoSem.Claim
import GoSem.ClaimJoined
import GoSem.ClaimMapViews
import Derived.JoinedTies
import Derived.KernelRfl
namespace Go.Proofs.YtfamkemdgbnegaaDoor
/- THE CELL 'sum', in the pinned program and in every row, IS THE sha256 OF THE DUMP (.gsa) THAT YtfamkemdgbnegaaDoorProg.lean LOADS. Nothing in Lean hashes anything: it is a label: what it is worth is what the hold of that sum in a sandbox is worth. -/
noncomputable def Tryd.pinned : Pinned := { name := "ytfamkemdgbnegaadoor", sum := "94a9770d37f2179c125a48f0847bc2a00b852d6b986aa92825de96f29da14cdf", checked := Tryd.checked }
namespace Rows
def none {H : Type} : Left H := { results := [], args := [] }

/- WHAT THE LISTED PACKAGE-LEVEL VARIABLES READ AS WHEN THE CALL BEGINS. Each datum BY PROGRAM (the guide's laid-datum.mjs) off the statement by which the dump's own 'gosem.cut.vars' lays the variable. In a bare row this is a premise. The card (YtfamkemdgbnegaaDoorCards.lean) ties it to the program's text. -/
def laid_unicode_White_Space {H : Type} : DataW H := .ptr (.agg [.slice [.agg [.lit (.int .u16 9), .lit (.int .u16 13), .lit (.int .u16 1)], .agg [.lit (.int .u16 32), .lit (.int .u16 133), .lit (.int .u16 101)], .agg [.lit (.int .u16 160), .lit (.int .u16 5760), .lit (.int .u16 5600)], .agg [.lit (.int .u16 8192), .lit (.int .u16 8202), .lit (.int .u16 1)], .agg [.lit (.int .u16 8232), .lit (.int .u16 8233), .lit (.int .u16 1)], .agg [.lit (.int .u16 8239), .lit (.int .u16 8287), .lit (.int .u16 48)], .agg [.lit (.int .u16 12288), .lit (.int .u16 12288), .lit (.int .u16 1)]] [], .nil, .lit (.int .i64 2)])
def laid_strings_asciiSpace {H : Type} : DataW H := .agg [.lit (.int .u8 0), .lit (.int .u8 0), .lit (.int .u8 0), .lit (.int .u8 0), .lit (.int .u8 0), .lit (.int .u8 0), .lit (.int .u8 0), .lit (.int .u8 0), .lit (.int .u8 0), .lit (.int .u8 1), .lit (.int .u8 1), .lit (.int .u8 1), .lit (.int .u8 1), .lit (.int .u8 1), .lit (.int .u8 0), .lit (.int .u8 0), .lit (.int .u8 0), .lit (.int .u8 0), .lit (.int .u8 0), .lit (.int .u8 0), .lit (.int .u8 0), .lit (.int .u8 0), .lit (.int .u8 0), .lit (.int .u8 0), .lit (.int .u8 0), .lit (.int .u8 0), .lit (.int .u8 0), .lit (.int .u8 0), .lit (.int .u8 0), .lit (.int .u8 0), .lit (.int .u8 0), .lit (.int .u8 0), .lit (.int .u8 1), .lit (.int .u8 0), .lit (.int .u8 0), .lit (.int .u8 0), .lit (.int .u8 0), .lit (.int .u8 0), .lit (.int .u8 0), .lit (.int .u8 0), .lit (.int .u8 0), .lit (.int .u8 0), .lit (.int .u8 0), .lit (.int .u8 0), .lit (.int .u8 0), .lit (.int .u8 0), .lit (.int .u8 0), .lit (.int .u8 0), .lit (.int .u8 0), .lit (.int .u8 0), .lit (.int .u8 0), .lit (.int .u8 0), .lit (.int .u8 0), .lit (.int .u8 0), .lit (.int .u8 0), .lit (.int .u8 0), .lit (.int .u8 0), .lit (.int .u8 0), .lit (.int .u8 0), .lit (.int .u8 0), .lit (.int .u8 0), .lit (.int .u8 0), .lit (.int .u8 0), .lit (.int .u8 0), .lit (.int .u8 0), .lit (.int .u8 0), .lit (.int .u8 0), .lit (.int .u8 0), .lit (.int .u8 0), .lit (.int .u8 0), .lit (.int .u8 0), .lit (.int .u8 0), .lit (.int .u8 0), .lit (.int .u8 0), .lit (.int .u8 0), .lit (.int .u8 0), .lit (.int .u8 0), .lit (.int .u8 0), .lit (.int .u8 0), .lit (.int .u8 0), .lit (.int .u8 0), .lit (.int .u8 0), .lit (.int .u8 0), .lit (.int .u8 0), .lit (.int .u8 0), .lit (.int .u8 0), .lit (.int .u8 0), .lit (.int .u8 0), .lit (.int .u8 0), .lit (.int .u8 0), .lit (.int .u8 0), .lit (.int .u8 0), .lit (.int .u8 0), .lit (.int .u8 0), .lit (.int .u8 0), .lit (.int .u8 0), .lit (.int .u8 0), .lit (.int .u8 0), .lit (.int .u8 0), .lit (.int .u8 0), .lit (.int .u8 0), .lit (.int .u8 0), .lit (.int .u8 0), .lit (.int .u8 0), .lit (.int .u8 0), .lit (.int .u8 0), .lit (.int .u8 0), .lit (.int .u8 0), .lit (.int .u8 0), .lit (.int .u8 0), .lit (.int .u8 0), .lit (.int .u8 0), .lit (.int .u8 0), .lit (.int .u8 0), .lit (.int .u8 0), .lit (.int .u8 0), .lit (.int .u8 0), .lit (.int .u8 0), .lit (.int .u8 0), .lit (.int .u8 0), .lit (.int .u8 0), .lit (.int .u8 0), .lit (.int .u8 0), .lit (.int .u8 0), .lit (.int .u8 0), .lit (.int .u8 0), .lit (.int .u8 0), .lit (.int .u8 0), .lit (.int .u8 0), .lit (.int .u8 0), .lit (.int .u8 0), .lit (.int .u8 0), .lit (.int .u8 0), .lit (.int .u8 0), .lit (.int .u8 0), .lit (.int .u8 0), .lit (.int .u8 0), .lit (.int .u8 0), .lit (.int .u8 0), .lit (.int .u8 0), .lit (.int .u8 0), .lit (.int .u8 0), .lit (.int .u8 0), .lit (.int .u8 0), .lit (.int .u8 0), .lit (.int .u8 0), .lit (.int .u8 0), .lit (.int .u8 0), .lit (.int .u8 0), .lit (.int .u8 0), .lit (.int .u8 0), .lit (.int .u8 0), .lit (.int .u8 0), .lit (.int .u8 0), .lit (.int .u8 0), .lit (.int .u8 0), .lit (.int .u8 0), .lit (.int .u8 0), .lit (.int .u8 0), .lit (.int .u8 0), .lit (.int .u8 0), .lit (.int .u8 0), .lit (.int .u8 0), .lit (.int .u8 0), .lit (.int .u8 0), .lit (.int .u8 0), .lit (.int .u8 0), .lit (.int .u8 0), .lit (.int .u8 0), .lit (.int .u8 0), .lit (.int .u8 0), .lit (.int .u8 0), .lit (.int .u8 0), .lit (.int .u8 0), .lit (.int .u8 0), .lit (.int .u8 0), .lit (.int .u8 0), .lit (.int .u8 0), .lit (.int .u8 0), .lit (.int .u8 0), .lit (.int .u8 0), .lit (.int .u8 0), .lit (.int .u8 0), .lit (.int .u8 0), .lit (.int .u8 0), .lit (.int .u8 0), .lit (.int .u8 0), .lit (.int .u8 0), .lit (.int .u8 0), .lit (.int .u8 0), .lit (.int .u8 0), .lit (.int .u8 0), .lit (.int .u8 0), .lit (.int .u8 0), .lit (.int .u8 0), .lit (.int .u8 0), .lit (.int .u8 0), .lit (.int .u8 0), .lit (.int .u8 0), .lit (.int .u8 0), .lit (.int .u8 0), .lit (.int .u8 0), .lit (.int .u8 0), .lit (.int .u8 0), .lit (.int .u8 0), .lit (.int .u8 0), .lit (.int .u8 0), .lit (.int .u8 0), .lit (.int .u8 0), .lit (.int .u8 0), .lit (.int .u8 0), .lit (.int .u8 0), .lit (.int .u8 0), .lit (.int .u8 0), .lit (.int .u8 0), .lit (.int .u8 0), .lit (.int .u8 0), .lit (.int .u8 0), .lit (.int .u8 0), .lit (.int .u8 0), .lit (.int .u8 0), .lit (.int .u8 0), .lit (.int .u8 0), .lit (.int .u8 0), .lit (.int .u8 0), .lit (.int .u8 0), .lit (.int .u8 0), .lit (.int .u8 0), .lit (.int .u8 0), .lit (.int .u8 0), .lit (.int .u8 0), .lit (.int .u8 0), .lit (.int .u8 0), .lit (.int .u8 0), .lit (.int .u8 0), .lit (.int .u8 0), .lit (.int .u8 0), .lit (.int .u8 0), .lit (.int .u8 0), .lit (.int .u8 0), .lit (.int .u8 0), .lit (.int .u8 0), .lit (.int .u8 0), .lit (.int .u8 0), .lit (.int .u8 0), .lit (.int .u8 0), .lit (.int .u8 0), .lit (.int .u8 0), .lit (.int .u8 0), .lit (.int .u8 0), .lit (.int .u8 0), .lit (.int .u8 0), .lit (.int .u8 0), .lit (.int .u8 0), .lit (.int .u8 0), .lit (.int .u8 0)]
def laid_baize_sorts_stmtParts {H : Type} : DataW H := .agg [.lit (.int .i64 1), .lit (.int .i64 2), .lit (.int .i64 1), .lit (.int .i64 0), .lit (.int .i64 0), .lit (.int .i64 0), .lit (.int .i64 1), .lit (.int .i64 0), .lit (.int .i64 2), .lit (.int .i64 1)]
def laid_baize_sorts_exprParts {H : Type} : DataW H := .agg [.lit (.int .i64 0), .lit (.int .i64 0), .lit (.int .i64 1), .lit (.int .i64 1), .lit (.int .i64 1), .lit (.int .i64 2), .lit (.int .i64 2), .lit (.int .i64 2), .lit (.int .i64 2), .lit (.int .i64 2), .lit (.int .i64 2), .lit (.int .i64 2), .lit (.int .i64 2), .lit (.int .i64 2), .lit (.int .i64 2), .lit (.int .i64 2), .lit (.int .i64 2), .lit (.int .i64 2)]

/-- 'baizelaw12.SortsPlaces': WHATEVER THE INPUT: true; the input reads as it did. -/
def sortsPlacesSpec : ChangeSpec := { name := "sortsPlaces", fn := fun _ => fun
  | [d1, d2] => { results := [.lit (.bool true)], args := [d1, d2] }
  | _ => none }
def sortsPlacesRow : OpenClaim := { program := "ytfamkemdgbnegaadoor", sum := "94a9770d37f2179c125a48f0847bc2a00b852d6b986aa92825de96f29da14cdf", func := "baize/baizelaw12.SortsPlaces", spec := "sortsPlaces", unfollowed := true, recurses := true, named := ["strings.asciiSpace", "unicode.White_Space", "baize/sorts.stmtParts", "baize/sorts.exprParts"], loops := true, apart := false, laid := [("unicode.White_Space", laid_unicode_White_Space), ("strings.asciiSpace", laid_strings_asciiSpace), ("baize/sorts.stmtParts", laid_baize_sorts_stmtParts), ("baize/sorts.exprParts", laid_baize_sorts_exprParts)] }
def SortsPlacesSaid : Prop := sortsPlacesRow.holds Tryd.pinned (OpenSpec.ofChange sortsPlacesSpec)

/-- ITS FALSE NEIGHBOUR: 'it returns false'. Refute it at one input. -/
def sortsPlacesWrong : ChangeSpec := { name := "sortsPlaces", fn := fun _ => fun
  | [d1, d2] => { results := [.lit (.bool false)], args := [d1, d2] }
  | _ => none }
def SortsPlacesWrongFalsely : Prop := sortsPlacesRow.holds Tryd.pinned (OpenSpec.ofChange sortsPlacesWrong)

/-- 'baizelaw12.SortsUnknown': WHATEVER THE INPUT: true; the input reads as it did. -/
def sortsUnknownSpec : ChangeSpec := { name := "sortsUnknown", fn := fun _ => fun
  | [d1, d2, d3] => { results := [.lit (.bool true)], args := [d1, d2, d3] }
  | _ => none }
def sortsUnknownRow : OpenClaim := { program := "ytfamkemdgbnegaadoor", sum := "94a9770d37f2179c125a48f0847bc2a00b852d6b986aa92825de96f29da14cdf", func := "baize/baizelaw12.SortsUnknown", spec := "sortsUnknown", unfollowed := true, recurses := true, named := ["strings.asciiSpace", "unicode.White_Space", "baize/sorts.stmtParts", "baize/sorts.exprParts"], loops := true, apart := false, laid := [("unicode.White_Space", laid_unicode_White_Space), ("strings.asciiSpace", laid_strings_asciiSpace), ("baize/sorts.stmtParts", laid_baize_sorts_stmtParts), ("baize/sorts.exprParts", laid_baize_sorts_exprParts)] }
def SortsUnknownSaid : Prop := sortsUnknownRow.holds Tryd.pinned (OpenSpec.ofChange sortsUnknownSpec)

/-- ITS FALSE NEIGHBOUR: 'it returns false'. Refute it at one input. -/
def sortsUnknownWrong : ChangeSpec := { name := "sortsUnknown", fn := fun _ => fun
  | [d1, d2, d3] => { results := [.lit (.bool false)], args := [d1, d2, d3] }
  | _ => none }
def SortsUnknownWrongFalsely : Prop := sortsUnknownRow.holds Tryd.pinned (OpenSpec.ofChange sortsUnknownWrong)

/-- 'baizelaw12.SortsFirst': WHATEVER THE INPUT: true; the input reads as it did. -/
def sortsFirstSpec : ChangeSpec := { name := "sortsFirst", fn := fun _ => fun
  | [d1, d2, d3] => { results := [.lit (.bool true)], args := [d1, d2, d3] }
  | _ => none }
def sortsFirstRow : OpenClaim := { program := "ytfamkemdgbnegaadoor", sum := "94a9770d37f2179c125a48f0847bc2a00b852d6b986aa92825de96f29da14cdf", func := "baize/baizelaw12.SortsFirst", spec := "sortsFirst", unfollowed := true, recurses := true, named := ["strings.asciiSpace", "unicode.White_Space", "baize/sorts.stmtParts", "baize/sorts.exprParts"], loops := true, apart := false, laid := [("unicode.White_Space", laid_unicode_White_Space), ("strings.asciiSpace", laid_strings_asciiSpace), ("baize/sorts.stmtParts", laid_baize_sorts_stmtParts), ("baize/sorts.exprParts", laid_baize_sorts_exprParts)] }
def SortsFirstSaid : Prop := sortsFirstRow.holds Tryd.pinned (OpenSpec.ofChange sortsFirstSpec)

/-- ITS FALSE NEIGHBOUR: 'it returns false'. Refute it at one input. -/
def sortsFirstWrong : ChangeSpec := { name := "sortsFirst", fn := fun _ => fun
  | [d1, d2, d3] => { results := [.lit (.bool false)], args := [d1, d2, d3] }
  | _ => none }
def SortsFirstWrongFalsely : Prop := sortsFirstRow.holds Tryd.pinned (OpenSpec.ofChange sortsFirstWrong)

/-- 'baizelaw12.SortsEnds': WHATEVER THE INPUT: true; the input reads as it did. -/
def sortsEndsSpec : ChangeSpec := { name := "sortsEnds", fn := fun _ => fun
  | [d1, d2] => { results := [.lit (.bool true)], args := [d1, d2] }
  | _ => none }
def sortsEndsRow : OpenClaim := { program := "ytfamkemdgbnegaadoor", sum := "94a9770d37f2179c125a48f0847bc2a00b852d6b986aa92825de96f29da14cdf", func := "baize/baizelaw12.SortsEnds", spec := "sortsEnds", unfollowed := true, recurses := true, named := ["strings.asciiSpace", "unicode.White_Space", "baize/sorts.stmtParts", "baize/sorts.exprParts"], loops := true, apart := false, laid := [("unicode.White_Space", laid_unicode_White_Space), ("strings.asciiSpace", laid_strings_asciiSpace), ("baize/sorts.stmtParts", laid_baize_sorts_stmtParts), ("baize/sorts.exprParts", laid_baize_sorts_exprParts)] }
def SortsEndsSaid : Prop := sortsEndsRow.holds Tryd.pinned (OpenSpec.ofChange sortsEndsSpec)

/-- ITS FALSE NEIGHBOUR: 'it returns false'. Refute it at one input. -/
def sortsEndsWrong : ChangeSpec := { name := "sortsEnds", fn := fun _ => fun
  | [d1, d2] => { results := [.lit (.bool false)], args := [d1, d2] }
  | _ => none }
def SortsEndsWrongFalsely : Prop := sortsEndsRow.holds Tryd.pinned (OpenSpec.ofChange sortsEndsWrong)

/-- 'baizelaw12.SortsScopes': WHATEVER THE INPUT: true; the input reads as it did. -/
def sortsScopesSpec : ChangeSpec := { name := "sortsScopes", fn := fun _ => fun
  | [d1, d2] => { results := [.lit (.bool true)], args := [d1, d2] }
  | _ => none }
def sortsScopesRow : OpenClaim := { program := "ytfamkemdgbnegaadoor", sum := "94a9770d37f2179c125a48f0847bc2a00b852d6b986aa92825de96f29da14cdf", func := "baize/baizelaw12.SortsScopes", spec := "sortsScopes", unfollowed := true, recurses := true, named := ["strings.asciiSpace", "unicode.White_Space", "baize/sorts.stmtParts", "baize/sorts.exprParts"], loops := true, apart := false, laid := [("unicode.White_Space", laid_unicode_White_Space), ("strings.asciiSpace", laid_strings_asciiSpace), ("baize/sorts.stmtParts", laid_baize_sorts_stmtParts), ("baize/sorts.exprParts", laid_baize_sorts_exprParts)] }
def SortsScopesSaid : Prop := sortsScopesRow.holds Tryd.pinned (OpenSpec.ofChange sortsScopesSpec)

/-- ITS FALSE NEIGHBOUR: 'it returns false'. Refute it at one input. -/
def sortsScopesWrong : ChangeSpec := { name := "sortsScopes", fn := fun _ => fun
  | [d1, d2] => { results := [.lit (.bool false)], args := [d1, d2] }
  | _ => none }
def SortsScopesWrongFalsely : Prop := sortsScopesRow.holds Tryd.pinned (OpenSpec.ofChange sortsScopesWrong)

/-- 'baizelaw12.SortsCells': WHATEVER THE INPUT: true; the input reads as it did. -/
def sortsCellsSpec : ChangeSpec := { name := "sortsCells", fn := fun _ => fun
  | [d1, d2] => { results := [.lit (.bool true)], args := [d1, d2] }
  | _ => none }
def sortsCellsRow : OpenClaim := { program := "ytfamkemdgbnegaadoor", sum := "94a9770d37f2179c125a48f0847bc2a00b852d6b986aa92825de96f29da14cdf", func := "baize/baizelaw12.SortsCells", spec := "sortsCells", unfollowed := true, recurses := true, named := ["strings.asciiSpace", "unicode.White_Space", "baize/sorts.stmtParts", "baize/sorts.exprParts"], loops := true, apart := false, laid := [("unicode.White_Space", laid_unicode_White_Space), ("strings.asciiSpace", laid_strings_asciiSpace), ("baize/sorts.stmtParts", laid_baize_sorts_stmtParts), ("baize/sorts.exprParts", laid_baize_sorts_exprParts)] }
def SortsCellsSaid : Prop := sortsCellsRow.holds Tryd.pinned (OpenSpec.ofChange sortsCellsSpec)

/-- ITS FALSE NEIGHBOUR: 'it returns false'. Refute it at one input. -/
def sortsCellsWrong : ChangeSpec := { name := "sortsCells", fn := fun _ => fun
  | [d1, d2] => { results := [.lit (.bool false)], args := [d1, d2] }
  | _ => none }
def SortsCellsWrongFalsely : Prop := sortsCellsRow.holds Tryd.pinned (OpenSpec.ofChange sortsCellsWrong)

/-- 'baizelaw12.SortsOwn': WHATEVER THE INPUT: true; the input reads as it did. -/
def sortsOwnSpec : ChangeSpec := { name := "sortsOwn", fn := fun _ => fun
  | [d] => { results := [.lit (.bool true)], args := [d] }
  | _ => none }
def sortsOwnRow : OpenClaim := { program := "ytfamkemdgbnegaadoor", sum := "94a9770d37f2179c125a48f0847bc2a00b852d6b986aa92825de96f29da14cdf", func := "baize/baizelaw12.SortsOwn", spec := "sortsOwn", unfollowed := true, recurses := true, named := ["strings.asciiSpace", "unicode.White_Space", "baize/sorts.stmtParts", "baize/sorts.exprParts"], loops := true, apart := false, laid := [("unicode.White_Space", laid_unicode_White_Space), ("strings.asciiSpace", laid_strings_asciiSpace), ("baize/sorts.stmtParts", laid_baize_sorts_stmtParts), ("baize/sorts.exprParts", laid_baize_sorts_exprParts)] }
def SortsOwnSaid : Prop := sortsOwnRow.holds Tryd.pinned (OpenSpec.ofChange sortsOwnSpec)

/-- ITS FALSE NEIGHBOUR: 'it returns false'. Refute it at one input. -/
def sortsOwnWrong : ChangeSpec := { name := "sortsOwn", fn := fun _ => fun
  | [d] => { results := [.lit (.bool false)], args := [d] }
  | _ => none }
def SortsOwnWrongFalsely : Prop := sortsOwnRow.holds Tryd.pinned (OpenSpec.ofChange sortsOwnWrong)

/- THE SECOND FORM. 'bulk': how many values and letters a reading holds, each counted each time it is reached (what is shared counts as often as it is met; a slice's spare places count too). A statement '..UptoSaid' is the law's where the arguments, and the package variables that the reading takes, are together of bulk at most 1048576: NARROWER than '..Said'. Prove '..Said' where nothing that the law and all that it calls make is longer than what came in: it says more and counts as full. Else prove '..UptoSaid'. A law counts once. -/
mutual
def uptoBulk {H : Type} : DataW H → Nat
  | .lit (.string bytes) => bytes.length + 1
  | .lit _ => 1
  | .nil => 1
  | .ptr d => uptoBulk d + 1
  | .slice elems spare => uptoBulkAll elems + uptoBulkAll spare + 1
  | .agg parts => uptoBulkAll parts + 1
  | .iface _ d => uptoBulk d + 1
  | .map entries => uptoBulkEntries entries + 1
  | .held _ => 1
def uptoBulkAll {H : Type} : List (DataW H) → Nat
  | [] => 0
  | d :: r => uptoBulk d + uptoBulkAll r
def uptoBulkEntries {H : Type} : List (Lit × DataW H) → Nat
  | [] => 0
  | x :: r => uptoBulkEntry x + uptoBulkEntries r
def uptoBulkEntry {H : Type} : Lit × DataW H → Nat
  | (.string bytes, d) => bytes.length + uptoBulk d + 1
  | (_, d) => uptoBulk d + 1
 end
def uptoSmall : (H : Type) → List (DataW H) → Bool := fun _ ds => decide (uptoBulkAll ds ≤ 1048576)
def OpenSpec.upto (s : _root_.Go.ChangeSpec) : _root_.Go.OpenSpec := { _root_.Go.OpenSpec.ofChange s with cond := some uptoSmall }

/-- 'baizelaw12.SortsPlaces', WHERE WHAT IT READS IS OF BULK AT MOST 1048576: true; the input reads as it did. -/
def sortsPlacesUptoRow : OpenClaim := { program := "ytfamkemdgbnegaadoor", sum := "94a9770d37f2179c125a48f0847bc2a00b852d6b986aa92825de96f29da14cdf", func := "baize/baizelaw12.SortsPlaces", spec := "sortsPlaces", unfollowed := true, recurses := true, named := ["strings.asciiSpace", "unicode.White_Space", "baize/sorts.stmtParts", "baize/sorts.exprParts"], loops := true, apart := false, laid := [("unicode.White_Space", laid_unicode_White_Space), ("strings.asciiSpace", laid_strings_asciiSpace), ("baize/sorts.stmtParts", laid_baize_sorts_stmtParts), ("baize/sorts.exprParts", laid_baize_sorts_exprParts)], narrowed := true }
def SortsPlacesUptoSaid : Prop := sortsPlacesUptoRow.holds Tryd.pinned (OpenSpec.upto sortsPlacesSpec)

/-- 'baizelaw12.SortsUnknown', WHERE WHAT IT READS IS OF BULK AT MOST 1048576: true; the input reads as it did. -/
def sortsUnknownUptoRow : OpenClaim := { program := "ytfamkemdgbnegaadoor", sum := "94a9770d37f2179c125a48f0847bc2a00b852d6b986aa92825de96f29da14cdf", func := "baize/baizelaw12.SortsUnknown", spec := "sortsUnknown", unfollowed := true, recurses := true, named := ["strings.asciiSpace", "unicode.White_Space", "baize/sorts.stmtParts", "baize/sorts.exprParts"], loops := true, apart := false, laid := [("unicode.White_Space", laid_unicode_White_Space), ("strings.asciiSpace", laid_strings_asciiSpace), ("baize/sorts.stmtParts", laid_baize_sorts_stmtParts), ("baize/sorts.exprParts", laid_baize_sorts_exprParts)], narrowed := true }
def SortsUnknownUptoSaid : Prop := sortsUnknownUptoRow.holds Tryd.pinned (OpenSpec.upto sortsUnknownSpec)

/-- 'baizelaw12.SortsFirst', WHERE WHAT IT READS IS OF BULK AT MOST 1048576: true; the input reads as it did. -/
def sortsFirstUptoRow : OpenClaim := { program := "ytfamkemdgbnegaadoor", sum := "94a9770d37f2179c125a48f0847bc2a00b852d6b986aa92825de96f29da14cdf", func := "baize/baizelaw12.SortsFirst", spec := "sortsFirst", unfollowed := true, recurses := true, named := ["strings.asciiSpace", "unicode.White_Space", "baize/sorts.stmtParts", "baize/sorts.exprParts"], loops := true, apart := false, laid := [("unicode.White_Space", laid_unicode_White_Space), ("strings.asciiSpace", laid_strings_asciiSpace), ("baize/sorts.stmtParts", laid_baize_sorts_stmtParts), ("baize/sorts.exprParts", laid_baize_sorts_exprParts)], narrowed := true }
def SortsFirstUptoSaid : Prop := sortsFirstUptoRow.holds Tryd.pinned (OpenSpec.upto sortsFirstSpec)

/-- 'baizelaw12.SortsEnds', WHERE WHAT IT READS IS OF BULK AT MOST 1048576: true; the input reads as it did. -/
def sortsEndsUptoRow : OpenClaim := { program := "ytfamkemdgbnegaadoor", sum := "94a9770d37f2179c125a48f0847bc2a00b852d6b986aa92825de96f29da14cdf", func := "baize/baizelaw12.SortsEnds", spec := "sortsEnds", unfollowed := true, recurses := true, named := ["strings.asciiSpace", "unicode.White_Space", "baize/sorts.stmtParts", "baize/sorts.exprParts"], loops := true, apart := false, laid := [("unicode.White_Space", laid_unicode_White_Space), ("strings.asciiSpace", laid_strings_asciiSpace), ("baize/sorts.stmtParts", laid_baize_sorts_stmtParts), ("baize/sorts.exprParts", laid_baize_sorts_exprParts)], narrowed := true }
def SortsEndsUptoSaid : Prop := sortsEndsUptoRow.holds Tryd.pinned (OpenSpec.upto sortsEndsSpec)

/-- 'baizelaw12.SortsScopes', WHERE WHAT IT READS IS OF BULK AT MOST 1048576: true; the input reads as it did. -/
def sortsScopesUptoRow : OpenClaim := { program := "ytfamkemdgbnegaadoor", sum := "94a9770d37f2179c125a48f0847bc2a00b852d6b986aa92825de96f29da14cdf", func := "baize/baizelaw12.SortsScopes", spec := "sortsScopes", unfollowed := true, recurses := true, named := ["strings.asciiSpace", "unicode.White_Space", "baize/sorts.stmtParts", "baize/sorts.exprParts"], loops := true, apart := false, laid := [("unicode.White_Space", laid_unicode_White_Space), ("strings.asciiSpace", laid_strings_asciiSpace), ("baize/sorts.stmtParts", laid_baize_sorts_stmtParts), ("baize/sorts.exprParts", laid_baize_sorts_exprParts)], narrowed := true }
def SortsScopesUptoSaid : Prop := sortsScopesUptoRow.holds Tryd.pinned (OpenSpec.upto sortsScopesSpec)

/-- 'baizelaw12.SortsCells', WHERE WHAT IT READS IS OF BULK AT MOST 1048576: true; the input reads as it did. -/
def sortsCellsUptoRow : OpenClaim := { program := "ytfamkemdgbnegaadoor", sum := "94a9770d37f2179c125a48f0847bc2a00b852d6b986aa92825de96f29da14cdf", func := "baize/baizelaw12.SortsCells", spec := "sortsCells", unfollowed := true, recurses := true, named := ["strings.asciiSpace", "unicode.White_Space", "baize/sorts.stmtParts", "baize/sorts.exprParts"], loops := true, apart := false, laid := [("unicode.White_Space", laid_unicode_White_Space), ("strings.asciiSpace", laid_strings_asciiSpace), ("baize/sorts.stmtParts", laid_baize_sorts_stmtParts), ("baize/sorts.exprParts", laid_baize_sorts_exprParts)], narrowed := true }
def SortsCellsUptoSaid : Prop := sortsCellsUptoRow.holds Tryd.pinned (OpenSpec.upto sortsCellsSpec)

/-- 'baizelaw12.SortsOwn', WHERE WHAT IT READS IS OF BULK AT MOST 1048576: true; the input reads as it did. -/
def sortsOwnUptoRow : OpenClaim := { program := "ytfamkemdgbnegaadoor", sum := "94a9770d37f2179c125a48f0847bc2a00b852d6b986aa92825de96f29da14cdf", func := "baize/baizelaw12.SortsOwn", spec := "sortsOwn", unfollowed := true, recurses := true, named := ["strings.asciiSpace", "unicode.White_Space", "baize/sorts.stmtParts", "baize/sorts.exprParts"], loops := true, apart := false, laid := [("unicode.White_Space", laid_unicode_White_Space), ("strings.asciiSpace", laid_strings_asciiSpace), ("baize/sorts.stmtParts", laid_baize_sorts_stmtParts), ("baize/sorts.exprParts", laid_baize_sorts_exprParts)], narrowed := true }
def SortsOwnUptoSaid : Prop := sortsOwnUptoRow.holds Tryd.pinned (OpenSpec.upto sortsOwnSpec)

end Rows
end Go.Proofs.YtfamkemdgbnegaaDoor
