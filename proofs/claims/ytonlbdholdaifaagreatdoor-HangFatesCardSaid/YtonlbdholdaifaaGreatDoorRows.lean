/-
  NARROWER THAN 'FOR EVERY INPUT', by the rows' own cells (each row's printed sentence says how): EvalNodes: laid · EvalPaths: laid · EvalRows: laid · HangFates: laid · ProjectTells: laid · ProjectParts: laid · HangHits: laid · GaugeKept: laid · GaugeTells: laid · HangGrows: laid · HangWhole: laid.
  DERIVED. THE GIVEN ROWS OF THIS SEAT. 11 by the template 'for every input the law returns true; each argument reads behind the call as it read before'; 0 by the template 'total and deterministic' (their statements: YtonlbdholdaifaaGreatDoorTotals.lean).
  GIVEN WITH THE SEED: the statements are not yours to turn. If you find one false, say at which input.
  Laid BY PROGRAM, IN A SANDBOX (cutbox-rows.mjs): the forced cells as the released guide's own fill.sh prints them over the translation 261df239b12bc0bf… (all of the seat's roots in one cut). By AI agents, Wed Nov 11 2026. No macro, syntax, notation, axiom, sorry.
-/
import Derived.Test.YtonlbdholdaifaaGreatDoorChecked
import GoSem.Claim
import GoSem.ClaimJoined
import GoSem.ClaimMapViews
import Derived.JoinedTies
import Derived.KernelRfl
namespace Go.Proofs.YtonlbdholdaifaaGreatDoor
/- THE CELL 'sum', in the pinned program and in every row, IS THE sha256 OF THE DUMP (.gsa) THAT YtonlbdholdaifaaGreatDoorProg.lean LOADS. Nothing in Lean hashes anything: it is a label: what it is worth is what the hold of that sum in a sandbox is worth. -/
noncomputable def Tryz.pinned : Pinned := { name := "ytonlbdholdaifaagreatdoor", sum := "261df239b12bc0bfceee5095ae07c62e9d7780ef45254b950b90cfa023af41bf", checked := Tryz.checked }
namespace Rows
def none {H : Type} : Left H := { results := [], args := [] }

/- WHAT THE LISTED PACKAGE-LEVEL VARIABLES READ AS WHEN THE CALL BEGINS. Each datum BY PROGRAM (the guide's laid-datum.mjs) off the statement by which the dump's own 'gosem.cut.vars' lays the variable. In a bare row this is a premise. The card (YtonlbdholdaifaaGreatDoorCards.lean) ties it to the program's text. -/
def laid_math_bits_deBruijn32tab {H : Type} : DataW H := .agg [.lit (.int .u8 0), .lit (.int .u8 1), .lit (.int .u8 28), .lit (.int .u8 2), .lit (.int .u8 29), .lit (.int .u8 14), .lit (.int .u8 24), .lit (.int .u8 3), .lit (.int .u8 30), .lit (.int .u8 22), .lit (.int .u8 20), .lit (.int .u8 15), .lit (.int .u8 25), .lit (.int .u8 17), .lit (.int .u8 4), .lit (.int .u8 8), .lit (.int .u8 31), .lit (.int .u8 27), .lit (.int .u8 13), .lit (.int .u8 23), .lit (.int .u8 21), .lit (.int .u8 19), .lit (.int .u8 16), .lit (.int .u8 7), .lit (.int .u8 26), .lit (.int .u8 12), .lit (.int .u8 18), .lit (.int .u8 6), .lit (.int .u8 11), .lit (.int .u8 5), .lit (.int .u8 10), .lit (.int .u8 9)]
def laid_math_bits_deBruijn64tab {H : Type} : DataW H := .agg [.lit (.int .u8 0), .lit (.int .u8 1), .lit (.int .u8 56), .lit (.int .u8 2), .lit (.int .u8 57), .lit (.int .u8 49), .lit (.int .u8 28), .lit (.int .u8 3), .lit (.int .u8 61), .lit (.int .u8 58), .lit (.int .u8 42), .lit (.int .u8 50), .lit (.int .u8 38), .lit (.int .u8 29), .lit (.int .u8 17), .lit (.int .u8 4), .lit (.int .u8 62), .lit (.int .u8 47), .lit (.int .u8 59), .lit (.int .u8 36), .lit (.int .u8 45), .lit (.int .u8 43), .lit (.int .u8 51), .lit (.int .u8 22), .lit (.int .u8 53), .lit (.int .u8 39), .lit (.int .u8 33), .lit (.int .u8 30), .lit (.int .u8 24), .lit (.int .u8 18), .lit (.int .u8 12), .lit (.int .u8 5), .lit (.int .u8 63), .lit (.int .u8 55), .lit (.int .u8 48), .lit (.int .u8 27), .lit (.int .u8 60), .lit (.int .u8 41), .lit (.int .u8 37), .lit (.int .u8 16), .lit (.int .u8 46), .lit (.int .u8 35), .lit (.int .u8 44), .lit (.int .u8 21), .lit (.int .u8 52), .lit (.int .u8 32), .lit (.int .u8 23), .lit (.int .u8 11), .lit (.int .u8 54), .lit (.int .u8 26), .lit (.int .u8 40), .lit (.int .u8 15), .lit (.int .u8 34), .lit (.int .u8 20), .lit (.int .u8 31), .lit (.int .u8 10), .lit (.int .u8 25), .lit (.int .u8 14), .lit (.int .u8 19), .lit (.int .u8 9), .lit (.int .u8 13), .lit (.int .u8 8), .lit (.int .u8 7), .lit (.int .u8 6)]
def laid_internal_strconv_uint64pow10 {H : Type} : DataW H := .agg [.lit (.int .u64 1), .lit (.int .u64 10), .lit (.int .u64 100), .lit (.int .u64 1000), .lit (.int .u64 10000), .lit (.int .u64 100000), .lit (.int .u64 1000000), .lit (.int .u64 10000000), .lit (.int .u64 100000000), .lit (.int .u64 1000000000), .lit (.int .u64 10000000000), .lit (.int .u64 100000000000), .lit (.int .u64 1000000000000), .lit (.int .u64 10000000000000), .lit (.int .u64 100000000000000), .lit (.int .u64 1000000000000000), .lit (.int .u64 10000000000000000), .lit (.int .u64 100000000000000000), .lit (.int .u64 1000000000000000000), .lit (.int .u64 10000000000000000000)]
def laid_strconv_ErrRange {H : Type} : DataW H := .iface "*errors.errorString" (.ptr (.agg [.lit (.string [118, 97, 108, 117, 101, 32, 111, 117, 116, 32, 111, 102, 32, 114, 97, 110, 103, 101])]))
def laid_strconv_ErrSyntax {H : Type} : DataW H := .iface "*errors.errorString" (.ptr (.agg [.lit (.string [105, 110, 118, 97, 108, 105, 100, 32, 115, 121, 110, 116, 97, 120])]))
def laid_riffle_literal_words {H : Type} : DataW H := .agg [.lit (.string [116, 114, 117, 101]), .lit (.string [102, 97, 108, 115, 101]), .lit (.string [110, 117, 108, 108])]

/-- 'rifflelaw16.EvalNodes': WHATEVER THE INPUT: true; the input reads as it did. -/
def evalNodesSpec : ChangeSpec := { name := "evalNodes", fn := fun _ => fun
  | [d1, d2] => { results := [.lit (.bool true)], args := [d1, d2] }
  | _ => none }
def evalNodesRow : OpenClaim := { program := "ytonlbdholdaifaagreatdoor", sum := "261df239b12bc0bfceee5095ae07c62e9d7780ef45254b950b90cfa023af41bf", func := "riffle/rifflelaw16.EvalNodes", spec := "evalNodes", unfollowed := true, recurses := true, named := ["strconv.ErrSyntax", "strconv.ErrRange", "internal/strconv.uint64pow10", "math/bits.deBruijn32tab", "math/bits.deBruijn64tab"], apart := false, laid := [("math/bits.deBruijn32tab", laid_math_bits_deBruijn32tab), ("math/bits.deBruijn64tab", laid_math_bits_deBruijn64tab), ("internal/strconv.uint64pow10", laid_internal_strconv_uint64pow10), ("strconv.ErrRange", laid_strconv_ErrRange), ("strconv.ErrSyntax", laid_strconv_ErrSyntax)] }
def EvalNodesSaid : Prop := evalNodesRow.holds Tryz.pinned (OpenSpec.ofChange evalNodesSpec)

/-- ITS FALSE NEIGHBOUR: 'it returns false'. Refute it at one input. -/
def evalNodesWrong : ChangeSpec := { name := "evalNodes", fn := fun _ => fun
  | [d1, d2] => { results := [.lit (.bool false)], args := [d1, d2] }
  | _ => none }
def EvalNodesWrongFalsely : Prop := evalNodesRow.holds Tryz.pinned (OpenSpec.ofChange evalNodesWrong)

/-- 'rifflelaw16.EvalPaths': WHATEVER THE INPUT: true; the input reads as it did. -/
def evalPathsSpec : ChangeSpec := { name := "evalPaths", fn := fun _ => fun
  | [d1, d2] => { results := [.lit (.bool true)], args := [d1, d2] }
  | _ => none }
def evalPathsRow : OpenClaim := { program := "ytonlbdholdaifaagreatdoor", sum := "261df239b12bc0bfceee5095ae07c62e9d7780ef45254b950b90cfa023af41bf", func := "riffle/rifflelaw16.EvalPaths", spec := "evalPaths", unfollowed := true, recurses := true, named := ["strconv.ErrSyntax", "strconv.ErrRange", "internal/strconv.uint64pow10", "math/bits.deBruijn32tab", "math/bits.deBruijn64tab"], apart := false, laid := [("math/bits.deBruijn32tab", laid_math_bits_deBruijn32tab), ("math/bits.deBruijn64tab", laid_math_bits_deBruijn64tab), ("internal/strconv.uint64pow10", laid_internal_strconv_uint64pow10), ("strconv.ErrRange", laid_strconv_ErrRange), ("strconv.ErrSyntax", laid_strconv_ErrSyntax)] }
def EvalPathsSaid : Prop := evalPathsRow.holds Tryz.pinned (OpenSpec.ofChange evalPathsSpec)

/-- ITS FALSE NEIGHBOUR: 'it returns false'. Refute it at one input. -/
def evalPathsWrong : ChangeSpec := { name := "evalPaths", fn := fun _ => fun
  | [d1, d2] => { results := [.lit (.bool false)], args := [d1, d2] }
  | _ => none }
def EvalPathsWrongFalsely : Prop := evalPathsRow.holds Tryz.pinned (OpenSpec.ofChange evalPathsWrong)

/-- 'rifflelaw16.EvalRows': WHATEVER THE INPUT: true; the input reads as it did. -/
def evalRowsSpec : ChangeSpec := { name := "evalRows", fn := fun _ => fun
  | [d1, d2] => { results := [.lit (.bool true)], args := [d1, d2] }
  | _ => none }
def evalRowsRow : OpenClaim := { program := "ytonlbdholdaifaagreatdoor", sum := "261df239b12bc0bfceee5095ae07c62e9d7780ef45254b950b90cfa023af41bf", func := "riffle/rifflelaw16.EvalRows", spec := "evalRows", unfollowed := true, recurses := true, named := ["strconv.ErrSyntax", "strconv.ErrRange", "internal/strconv.uint64pow10", "math/bits.deBruijn32tab", "math/bits.deBruijn64tab"], apart := false, laid := [("math/bits.deBruijn32tab", laid_math_bits_deBruijn32tab), ("math/bits.deBruijn64tab", laid_math_bits_deBruijn64tab), ("internal/strconv.uint64pow10", laid_internal_strconv_uint64pow10), ("strconv.ErrRange", laid_strconv_ErrRange), ("strconv.ErrSyntax", laid_strconv_ErrSyntax)] }
def EvalRowsSaid : Prop := evalRowsRow.holds Tryz.pinned (OpenSpec.ofChange evalRowsSpec)

/-- ITS FALSE NEIGHBOUR: 'it returns false'. Refute it at one input. -/
def evalRowsWrong : ChangeSpec := { name := "evalRows", fn := fun _ => fun
  | [d1, d2] => { results := [.lit (.bool false)], args := [d1, d2] }
  | _ => none }
def EvalRowsWrongFalsely : Prop := evalRowsRow.holds Tryz.pinned (OpenSpec.ofChange evalRowsWrong)

/-- 'rifflelaw17.HangFates': WHATEVER THE INPUT: true; the input reads as it did. -/
def hangFatesSpec : ChangeSpec := { name := "hangFates", fn := fun _ => fun
  | [d1, d2, d3] => { results := [.lit (.bool true)], args := [d1, d2, d3] }
  | _ => none }
def hangFatesRow : OpenClaim := { program := "ytonlbdholdaifaagreatdoor", sum := "261df239b12bc0bfceee5095ae07c62e9d7780ef45254b950b90cfa023af41bf", func := "riffle/rifflelaw17.HangFates", spec := "hangFates", unfollowed := true, recurses := true, named := ["strconv.ErrSyntax", "strconv.ErrRange", "internal/strconv.uint64pow10", "math/bits.deBruijn32tab", "math/bits.deBruijn64tab"], apart := false, laid := [("math/bits.deBruijn32tab", laid_math_bits_deBruijn32tab), ("math/bits.deBruijn64tab", laid_math_bits_deBruijn64tab), ("internal/strconv.uint64pow10", laid_internal_strconv_uint64pow10), ("strconv.ErrRange", laid_strconv_ErrRange), ("strconv.ErrSyntax", laid_strconv_ErrSyntax)] }
def HangFatesSaid : Prop := hangFatesRow.holds Tryz.pinned (OpenSpec.ofChange hangFatesSpec)

/-- ITS FALSE NEIGHBOUR: 'it returns false'. Refute it at one input. -/
def hangFatesWrong : ChangeSpec := { name := "hangFates", fn := fun _ => fun
  | [d1, d2, d3] => { results := [.lit (.bool false)], args := [d1, d2, d3] }
  | _ => none }
def HangFatesWrongFalsely : Prop := hangFatesRow.holds Tryz.pinned (OpenSpec.ofChange hangFatesWrong)

/-- 'rifflelaw24.ProjectTells': WHATEVER THE INPUT: true; the input reads as it did. -/
def projectTellsSpec : ChangeSpec := { name := "projectTells", fn := fun _ => fun
  | [d1, d2] => { results := [.lit (.bool true)], args := [d1, d2] }
  | _ => none }
def projectTellsRow : OpenClaim := { program := "ytonlbdholdaifaagreatdoor", sum := "261df239b12bc0bfceee5095ae07c62e9d7780ef45254b950b90cfa023af41bf", func := "riffle/rifflelaw24.ProjectTells", spec := "projectTells", unfollowed := true, recurses := true, named := ["strconv.ErrSyntax", "strconv.ErrRange", "internal/strconv.uint64pow10", "math/bits.deBruijn32tab", "math/bits.deBruijn64tab"], apart := false, laid := [("math/bits.deBruijn32tab", laid_math_bits_deBruijn32tab), ("math/bits.deBruijn64tab", laid_math_bits_deBruijn64tab), ("internal/strconv.uint64pow10", laid_internal_strconv_uint64pow10), ("strconv.ErrRange", laid_strconv_ErrRange), ("strconv.ErrSyntax", laid_strconv_ErrSyntax)] }
def ProjectTellsSaid : Prop := projectTellsRow.holds Tryz.pinned (OpenSpec.ofChange projectTellsSpec)

/-- ITS FALSE NEIGHBOUR: 'it returns false'. Refute it at one input. -/
def projectTellsWrong : ChangeSpec := { name := "projectTells", fn := fun _ => fun
  | [d1, d2] => { results := [.lit (.bool false)], args := [d1, d2] }
  | _ => none }
def ProjectTellsWrongFalsely : Prop := projectTellsRow.holds Tryz.pinned (OpenSpec.ofChange projectTellsWrong)

/-- 'rifflelaw24.ProjectParts': WHATEVER THE INPUT: true; the input reads as it did. -/
def projectPartsSpec : ChangeSpec := { name := "projectParts", fn := fun _ => fun
  | [d1, d2] => { results := [.lit (.bool true)], args := [d1, d2] }
  | _ => none }
def projectPartsRow : OpenClaim := { program := "ytonlbdholdaifaagreatdoor", sum := "261df239b12bc0bfceee5095ae07c62e9d7780ef45254b950b90cfa023af41bf", func := "riffle/rifflelaw24.ProjectParts", spec := "projectParts", unfollowed := true, recurses := true, named := ["strconv.ErrSyntax", "strconv.ErrRange", "internal/strconv.uint64pow10", "math/bits.deBruijn32tab", "math/bits.deBruijn64tab"], apart := false, laid := [("math/bits.deBruijn32tab", laid_math_bits_deBruijn32tab), ("math/bits.deBruijn64tab", laid_math_bits_deBruijn64tab), ("internal/strconv.uint64pow10", laid_internal_strconv_uint64pow10), ("strconv.ErrRange", laid_strconv_ErrRange), ("strconv.ErrSyntax", laid_strconv_ErrSyntax)] }
def ProjectPartsSaid : Prop := projectPartsRow.holds Tryz.pinned (OpenSpec.ofChange projectPartsSpec)

/-- ITS FALSE NEIGHBOUR: 'it returns false'. Refute it at one input. -/
def projectPartsWrong : ChangeSpec := { name := "projectParts", fn := fun _ => fun
  | [d1, d2] => { results := [.lit (.bool false)], args := [d1, d2] }
  | _ => none }
def ProjectPartsWrongFalsely : Prop := projectPartsRow.holds Tryz.pinned (OpenSpec.ofChange projectPartsWrong)

/-- 'rifflelaw17.HangHits': WHATEVER THE INPUT: true; the input reads as it did. -/
def hangHitsSpec : ChangeSpec := { name := "hangHits", fn := fun _ => fun
  | [d1, d2, d3] => { results := [.lit (.bool true)], args := [d1, d2, d3] }
  | _ => none }
def hangHitsRow : OpenClaim := { program := "ytonlbdholdaifaagreatdoor", sum := "261df239b12bc0bfceee5095ae07c62e9d7780ef45254b950b90cfa023af41bf", func := "riffle/rifflelaw17.HangHits", spec := "hangHits", inPlace := ["internal/abi.NoEscape"], unfollowed := true, recurses := true, named := ["strconv.ErrSyntax", "strconv.ErrRange", "internal/strconv.uint64pow10", "math/bits.deBruijn32tab", "math/bits.deBruijn64tab"], apart := false, laid := [("math/bits.deBruijn32tab", laid_math_bits_deBruijn32tab), ("math/bits.deBruijn64tab", laid_math_bits_deBruijn64tab), ("internal/strconv.uint64pow10", laid_internal_strconv_uint64pow10), ("strconv.ErrRange", laid_strconv_ErrRange), ("strconv.ErrSyntax", laid_strconv_ErrSyntax)] }
def HangHitsSaid : Prop := hangHitsRow.holds Tryz.pinned (OpenSpec.ofChange hangHitsSpec)

/-- ITS FALSE NEIGHBOUR: 'it returns false'. Refute it at one input. -/
def hangHitsWrong : ChangeSpec := { name := "hangHits", fn := fun _ => fun
  | [d1, d2, d3] => { results := [.lit (.bool false)], args := [d1, d2, d3] }
  | _ => none }
def HangHitsWrongFalsely : Prop := hangHitsRow.holds Tryz.pinned (OpenSpec.ofChange hangHitsWrong)

/-- 'rifflelaw23.GaugeKept': WHATEVER THE INPUT: true; the input reads as it did. -/
def gaugeKeptSpec : ChangeSpec := { name := "gaugeKept", fn := fun _ => fun
  | [d1, d2, d3] => { results := [.lit (.bool true)], args := [d1, d2, d3] }
  | _ => none }
def gaugeKeptRow : OpenClaim := { program := "ytonlbdholdaifaagreatdoor", sum := "261df239b12bc0bfceee5095ae07c62e9d7780ef45254b950b90cfa023af41bf", func := "riffle/rifflelaw23.GaugeKept", spec := "gaugeKept", unfollowed := true, recurses := true, named := ["strconv.ErrSyntax", "strconv.ErrRange", "internal/strconv.uint64pow10", "math/bits.deBruijn32tab", "math/bits.deBruijn64tab", "riffle/literal.words"], apart := false, laid := [("math/bits.deBruijn32tab", laid_math_bits_deBruijn32tab), ("math/bits.deBruijn64tab", laid_math_bits_deBruijn64tab), ("internal/strconv.uint64pow10", laid_internal_strconv_uint64pow10), ("riffle/literal.words", laid_riffle_literal_words), ("strconv.ErrRange", laid_strconv_ErrRange), ("strconv.ErrSyntax", laid_strconv_ErrSyntax)] }
def GaugeKeptSaid : Prop := gaugeKeptRow.holds Tryz.pinned (OpenSpec.ofChange gaugeKeptSpec)

/-- ITS FALSE NEIGHBOUR: 'it returns false'. Refute it at one input. -/
def gaugeKeptWrong : ChangeSpec := { name := "gaugeKept", fn := fun _ => fun
  | [d1, d2, d3] => { results := [.lit (.bool false)], args := [d1, d2, d3] }
  | _ => none }
def GaugeKeptWrongFalsely : Prop := gaugeKeptRow.holds Tryz.pinned (OpenSpec.ofChange gaugeKeptWrong)

/-- 'rifflelaw23.GaugeTells': WHATEVER THE INPUT: true; the input reads as it did. -/
def gaugeTellsSpec : ChangeSpec := { name := "gaugeTells", fn := fun _ => fun
  | [d1, d2, d3] => { results := [.lit (.bool true)], args := [d1, d2, d3] }
  | _ => none }
def gaugeTellsRow : OpenClaim := { program := "ytonlbdholdaifaagreatdoor", sum := "261df239b12bc0bfceee5095ae07c62e9d7780ef45254b950b90cfa023af41bf", func := "riffle/rifflelaw23.GaugeTells", spec := "gaugeTells", unfollowed := true, recurses := true, named := ["strconv.ErrSyntax", "strconv.ErrRange", "internal/strconv.uint64pow10", "math/bits.deBruijn32tab", "math/bits.deBruijn64tab", "riffle/literal.words"], apart := false, laid := [("math/bits.deBruijn32tab", laid_math_bits_deBruijn32tab), ("math/bits.deBruijn64tab", laid_math_bits_deBruijn64tab), ("internal/strconv.uint64pow10", laid_internal_strconv_uint64pow10), ("riffle/literal.words", laid_riffle_literal_words), ("strconv.ErrRange", laid_strconv_ErrRange), ("strconv.ErrSyntax", laid_strconv_ErrSyntax)] }
def GaugeTellsSaid : Prop := gaugeTellsRow.holds Tryz.pinned (OpenSpec.ofChange gaugeTellsSpec)

/-- ITS FALSE NEIGHBOUR: 'it returns false'. Refute it at one input. -/
def gaugeTellsWrong : ChangeSpec := { name := "gaugeTells", fn := fun _ => fun
  | [d1, d2, d3] => { results := [.lit (.bool false)], args := [d1, d2, d3] }
  | _ => none }
def GaugeTellsWrongFalsely : Prop := gaugeTellsRow.holds Tryz.pinned (OpenSpec.ofChange gaugeTellsWrong)

/-- 'rifflelaw17.HangGrows': WHATEVER THE INPUT: true; the input reads as it did. -/
def hangGrowsSpec : ChangeSpec := { name := "hangGrows", fn := fun _ => fun
  | [d1, d2, d3] => { results := [.lit (.bool true)], args := [d1, d2, d3] }
  | _ => none }
def hangGrowsRow : OpenClaim := { program := "ytonlbdholdaifaagreatdoor", sum := "261df239b12bc0bfceee5095ae07c62e9d7780ef45254b950b90cfa023af41bf", func := "riffle/rifflelaw17.HangGrows", spec := "hangGrows", unfollowed := true, recurses := true, named := ["strconv.ErrSyntax", "strconv.ErrRange", "internal/strconv.uint64pow10", "math/bits.deBruijn32tab", "math/bits.deBruijn64tab", "riffle/literal.words"], apart := false, laid := [("math/bits.deBruijn32tab", laid_math_bits_deBruijn32tab), ("math/bits.deBruijn64tab", laid_math_bits_deBruijn64tab), ("internal/strconv.uint64pow10", laid_internal_strconv_uint64pow10), ("riffle/literal.words", laid_riffle_literal_words), ("strconv.ErrRange", laid_strconv_ErrRange), ("strconv.ErrSyntax", laid_strconv_ErrSyntax)] }
def HangGrowsSaid : Prop := hangGrowsRow.holds Tryz.pinned (OpenSpec.ofChange hangGrowsSpec)

/-- ITS FALSE NEIGHBOUR: 'it returns false'. Refute it at one input. -/
def hangGrowsWrong : ChangeSpec := { name := "hangGrows", fn := fun _ => fun
  | [d1, d2, d3] => { results := [.lit (.bool false)], args := [d1, d2, d3] }
  | _ => none }
def HangGrowsWrongFalsely : Prop := hangGrowsRow.holds Tryz.pinned (OpenSpec.ofChange hangGrowsWrong)

/-- 'rifflelaw17.HangWhole': WHATEVER THE INPUT: true; the input reads as it did. -/
def hangWholeSpec : ChangeSpec := { name := "hangWhole", fn := fun _ => fun
  | [d1, d2] => { results := [.lit (.bool true)], args := [d1, d2] }
  | _ => none }
def hangWholeRow : OpenClaim := { program := "ytonlbdholdaifaagreatdoor", sum := "261df239b12bc0bfceee5095ae07c62e9d7780ef45254b950b90cfa023af41bf", func := "riffle/rifflelaw17.HangWhole", spec := "hangWhole", unfollowed := true, recurses := true, named := ["strconv.ErrSyntax", "strconv.ErrRange", "internal/strconv.uint64pow10", "math/bits.deBruijn32tab", "math/bits.deBruijn64tab", "riffle/literal.words"], apart := false, laid := [("math/bits.deBruijn32tab", laid_math_bits_deBruijn32tab), ("math/bits.deBruijn64tab", laid_math_bits_deBruijn64tab), ("internal/strconv.uint64pow10", laid_internal_strconv_uint64pow10), ("riffle/literal.words", laid_riffle_literal_words), ("strconv.ErrRange", laid_strconv_ErrRange), ("strconv.ErrSyntax", laid_strconv_ErrSyntax)] }
def HangWholeSaid : Prop := hangWholeRow.holds Tryz.pinned (OpenSpec.ofChange hangWholeSpec)

/-- ITS FALSE NEIGHBOUR: 'it returns false'. Refute it at one input. -/
def hangWholeWrong : ChangeSpec := { name := "hangWhole", fn := fun _ => fun
  | [d1, d2] => { results := [.lit (.bool false)], args := [d1, d2] }
  | _ => none }
def HangWholeWrongFalsely : Prop := hangWholeRow.holds Tryz.pinned (OpenSpec.ofChange hangWholeWrong)

/- THE SECOND FORM. 'bulk': how many values and letters a reading holds, each counted each time it is reached (what is shared counts as often as it is met; a slice's spare places count too). A statement '..UptoSaid' is the law's where the arguments, and the package variables that the reading takes, are together of bulk at most 1048576: NARROWER than '..Said'. Prove '..Said' where nothing that the law and all that it calls make is longer than what came in: it says more and counts as full. Else prove '..UptoSaid'. A law counts once. -/
mutual
def uptoBulk {H : Type} : DataW H → Nat
  | .lit (.string bytes) => bytes.length + 1
  | .lit _ => 1
  | .nil => 1
  | .ptr d => uptoBulk d + 1
  | .slice elems spare => uptoBulkAll elems + uptoBulkAll spare + 1
  | .agg parts => uptoBulkAll parts + 1
  | .iface _ d => uptoBulk d + 1
  | .map entries => uptoBulkEntries entries + 1
  | .held _ => 1
def uptoBulkAll {H : Type} : List (DataW H) → Nat
  | [] => 0
  | d :: r => uptoBulk d + uptoBulkAll r
def uptoBulkEntries {H : Type} : List (Lit × DataW H) → Nat
  | [] => 0
  | x :: r => uptoBulkEntry x + uptoBulkEntries r
def uptoBulkEntry {H : Type} : Lit × DataW H → Nat
  | (.string bytes, d) => bytes.length + uptoBulk d + 1
  | (_, d) => uptoBulk d + 1
 end
def uptoSmall : (H : Type) → List (DataW H) → Bool := fun _ ds => decide (uptoBulkAll ds ≤ 1048576)
def OpenSpec.upto (s : _root_.Go.ChangeSpec) : _root_.Go.OpenSpec := { _root_.Go.OpenSpec.ofChange s with cond := some uptoSmall }

/-- 'rifflelaw16.EvalNodes', WHERE WHAT IT READS IS OF BULK AT MOST 1048576: true; the input reads as it did. -/
def evalNodesUptoRow : OpenClaim := { program := "ytonlbdholdaifaagreatdoor", sum := "261df239b12bc0bfceee5095ae07c62e9d7780ef45254b950b90cfa023af41bf", func := "riffle/rifflelaw16.EvalNodes", spec := "evalNodes", unfollowed := true, recurses := true, named := ["strconv.ErrSyntax", "strconv.ErrRange", "internal/strconv.uint64pow10", "math/bits.deBruijn32tab", "math/bits.deBruijn64tab"], apart := false, laid := [("math/bits.deBruijn32tab", laid_math_bits_deBruijn32tab), ("math/bits.deBruijn64tab", laid_math_bits_deBruijn64tab), ("internal/strconv.uint64pow10", laid_internal_strconv_uint64pow10), ("strconv.ErrRange", laid_strconv_ErrRange), ("strconv.ErrSyntax", laid_strconv_ErrSyntax)], narrowed := true }
def EvalNodesUptoSaid : Prop := evalNodesUptoRow.holds Tryz.pinned (OpenSpec.upto evalNodesSpec)

/-- 'rifflelaw16.EvalPaths', WHERE WHAT IT READS IS OF BULK AT MOST 1048576: true; the input reads as it did. -/
def evalPathsUptoRow : OpenClaim := { program := "ytonlbdholdaifaagreatdoor", sum := "261df239b12bc0bfceee5095ae07c62e9d7780ef45254b950b90cfa023af41bf", func := "riffle/rifflelaw16.EvalPaths", spec := "evalPaths", unfollowed := true, recurses := true, named := ["strconv.ErrSyntax", "strconv.ErrRange", "internal/strconv.uint64pow10", "math/bits.deBruijn32tab", "math/bits.deBruijn64tab"], apart := false, laid := [("math/bits.deBruijn32tab", laid_math_bits_deBruijn32tab), ("math/bits.deBruijn64tab", laid_math_bits_deBruijn64tab), ("internal/strconv.uint64pow10", laid_internal_strconv_uint64pow10), ("strconv.ErrRange", laid_strconv_ErrRange), ("strconv.ErrSyntax", laid_strconv_ErrSyntax)], narrowed := true }
def EvalPathsUptoSaid : Prop := evalPathsUptoRow.holds Tryz.pinned (OpenSpec.upto evalPathsSpec)

/-- 'rifflelaw16.EvalRows', WHERE WHAT IT READS IS OF BULK AT MOST 1048576: true; the input reads as it did. -/
def evalRowsUptoRow : OpenClaim := { program := "ytonlbdholdaifaagreatdoor", sum := "261df239b12bc0bfceee5095ae07c62e9d7780ef45254b950b90cfa023af41bf", func := "riffle/rifflelaw16.EvalRows", spec := "evalRows", unfollowed := true, recurses := true, named := ["strconv.ErrSyntax", "strconv.ErrRange", "internal/strconv.uint64pow10", "math/bits.deBruijn32tab", "math/bits.deBruijn64tab"], apart := false, laid := [("math/bits.deBruijn32tab", laid_math_bits_deBruijn32tab), ("math/bits.deBruijn64tab", laid_math_bits_deBruijn64tab), ("internal/strconv.uint64pow10", laid_internal_strconv_uint64pow10), ("strconv.ErrRange", laid_strconv_ErrRange), ("strconv.ErrSyntax", laid_strconv_ErrSyntax)], narrowed := true }
def EvalRowsUptoSaid : Prop := evalRowsUptoRow.holds Tryz.pinned (OpenSpec.upto evalRowsSpec)

/-- 'rifflelaw17.HangFates', WHERE WHAT IT READS IS OF BULK AT MOST 1048576: true; the input reads as it did. -/
def hangFatesUptoRow : OpenClaim := { program := "ytonlbdholdaifaagreatdoor", sum := "261df239b12bc0bfceee5095ae07c62e9d7780ef45254b950b90cfa023af41bf", func := "riffle/rifflelaw17.HangFates", spec := "hangFates", unfollowed := true, recurses := true, named := ["strconv.ErrSyntax", "strconv.ErrRange", "internal/strconv.uint64pow10", "math/bits.deBruijn32tab", "math/bits.deBruijn64tab"], apart := false, laid := [("math/bits.deBruijn32tab", laid_math_bits_deBruijn32tab), ("math/bits.deBruijn64tab", laid_math_bits_deBruijn64tab), ("internal/strconv.uint64pow10", laid_internal_strconv_uint64pow10), ("strconv.ErrRange", laid_strconv_ErrRange), ("strconv.ErrSyntax", laid_strconv_ErrSyntax)], narrowed := true }
def HangFatesUptoSaid : Prop := hangFatesUptoRow.holds Tryz.pinned (OpenSpec.upto hangFatesSpec)

/-- 'rifflelaw24.ProjectTells', WHERE WHAT IT READS IS OF BULK AT MOST 1048576: true; the input reads as it did. -/
def projectTellsUptoRow : OpenClaim := { program := "ytonlbdholdaifaagreatdoor", sum := "261df239b12bc0bfceee5095ae07c62e9d7780ef45254b950b90cfa023af41bf", func := "riffle/rifflelaw24.ProjectTells", spec := "projectTells", unfollowed := true, recurses := true, named := ["strconv.ErrSyntax", "strconv.ErrRange", "internal/strconv.uint64pow10", "math/bits.deBruijn32tab", "math/bits.deBruijn64tab"], apart := false, laid := [("math/bits.deBruijn32tab", laid_math_bits_deBruijn32tab), ("math/bits.deBruijn64tab", laid_math_bits_deBruijn64tab), ("internal/strconv.uint64pow10", laid_internal_strconv_uint64pow10), ("strconv.ErrRange", laid_strconv_ErrRange), ("strconv.ErrSyntax", laid_strconv_ErrSyntax)], narrowed := true }
def ProjectTellsUptoSaid : Prop := projectTellsUptoRow.holds Tryz.pinned (OpenSpec.upto projectTellsSpec)

/-- 'rifflelaw24.ProjectParts', WHERE WHAT IT READS IS OF BULK AT MOST 1048576: true; the input reads as it did. -/
def projectPartsUptoRow : OpenClaim := { program := "ytonlbdholdaifaagreatdoor", sum := "261df239b12bc0bfceee5095ae07c62e9d7780ef45254b950b90cfa023af41bf", func := "riffle/rifflelaw24.ProjectParts", spec := "projectParts", unfollowed := true, recurses := true, named := ["strconv.ErrSyntax", "strconv.ErrRange", "internal/strconv.uint64pow10", "math/bits.deBruijn32tab", "math/bits.deBruijn64tab"], apart := false, laid := [("math/bits.deBruijn32tab", laid_math_bits_deBruijn32tab), ("math/bits.deBruijn64tab", laid_math_bits_deBruijn64tab), ("internal/strconv.uint64pow10", laid_internal_strconv_uint64pow10), ("strconv.ErrRange", laid_strconv_ErrRange), ("strconv.ErrSyntax", laid_strconv_ErrSyntax)], narrowed := true }
def ProjectPartsUptoSaid : Prop := projectPartsUptoRow.holds Tryz.pinned (OpenSpec.upto projectPartsSpec)

/-- 'rifflelaw17.HangHits', WHERE WHAT IT READS IS OF BULK AT MOST 1048576: true; the input reads as it did. -/
def hangHitsUptoRow : OpenClaim := { program := "ytonlbdholdaifaagreatdoor", sum := "261df239b12bc0bfceee5095ae07c62e9d7780ef45254b950b90cfa023af41bf", func := "riffle/rifflelaw17.HangHits", spec := "hangHits", inPlace := ["internal/abi.NoEscape"], unfollowed := true, recurses := true, named := ["strconv.ErrSyntax", "strconv.ErrRange", "internal/strconv.uint64pow10", "math/bits.deBruijn32tab", "math/bits.deBruijn64tab"], apart := false, laid := [("math/bits.deBruijn32tab", laid_math_bits_deBruijn32tab), ("math/bits.deBruijn64tab", laid_math_bits_deBruijn64tab), ("internal/strconv.uint64pow10", laid_internal_strconv_uint64pow10), ("strconv.ErrRange", laid_strconv_ErrRange), ("strconv.ErrSyntax", laid_strconv_ErrSyntax)], narrowed := true }
def HangHitsUptoSaid : Prop := hangHitsUptoRow.holds Tryz.pinned (OpenSpec.upto hangHitsSpec)

/-- 'rifflelaw23.GaugeKept', WHERE WHAT IT READS IS OF BULK AT MOST 1048576: true; the input reads as it did. -/
def gaugeKeptUptoRow : OpenClaim := { program := "ytonlbdholdaifaagreatdoor", sum := "261df239b12bc0bfceee5095ae07c62e9d7780ef45254b950b90cfa023af41bf", func := "riffle/rifflelaw23.GaugeKept", spec := "gaugeKept", unfollowed := true, recurses := true, named := ["strconv.ErrSyntax", "strconv.ErrRange", "internal/strconv.uint64pow10", "math/bits.deBruijn32tab", "math/bits.deBruijn64tab", "riffle/literal.words"], apart := false, laid := [("math/bits.deBruijn32tab", laid_math_bits_deBruijn32tab), ("math/bits.deBruijn64tab", laid_math_bits_deBruijn64tab), ("internal/strconv.uint64pow10", laid_internal_strconv_uint64pow10), ("riffle/literal.words", laid_riffle_literal_words), ("strconv.ErrRange", laid_strconv_ErrRange), ("strconv.ErrSyntax", laid_strconv_ErrSyntax)], narrowed := true }
def GaugeKeptUptoSaid : Prop := gaugeKeptUptoRow.holds Tryz.pinned (OpenSpec.upto gaugeKeptSpec)

/-- 'rifflelaw23.GaugeTells', WHERE WHAT IT READS IS OF BULK AT MOST 1048576: true; the input reads as it did. -/
def gaugeTellsUptoRow : OpenClaim := { program := "ytonlbdholdaifaagreatdoor", sum := "261df239b12bc0bfceee5095ae07c62e9d7780ef45254b950b90cfa023af41bf", func := "riffle/rifflelaw23.GaugeTells", spec := "gaugeTells", unfollowed := true, recurses := true, named := ["strconv.ErrSyntax", "strconv.ErrRange", "internal/strconv.uint64pow10", "math/bits.deBruijn32tab", "math/bits.deBruijn64tab", "riffle/literal.words"], apart := false, laid := [("math/bits.deBruijn32tab", laid_math_bits_deBruijn32tab), ("math/bits.deBruijn64tab", laid_math_bits_deBruijn64tab), ("internal/strconv.uint64pow10", laid_internal_strconv_uint64pow10), ("riffle/literal.words", laid_riffle_literal_words), ("strconv.ErrRange", laid_strconv_ErrRange), ("strconv.ErrSyntax", laid_strconv_ErrSyntax)], narrowed := true }
def GaugeTellsUptoSaid : Prop := gaugeTellsUptoRow.holds Tryz.pinned (OpenSpec.upto gaugeTellsSpec)

/-- 'rifflelaw17.HangGrows', WHERE WHAT IT READS IS OF BULK AT MOST 1048576: true; the input reads as it did. -/
def hangGrowsUptoRow : OpenClaim := { program := "ytonlbdholdaifaagreatdoor", sum := "261df239b12bc0bfceee5095ae07c62e9d7780ef45254b950b90cfa023af41bf", func := "riffle/rifflelaw17.HangGrows", spec := "hangGrows", unfollowed := true, recurses := true, named := ["strconv.ErrSyntax", "strconv.ErrRange", "internal/strconv.uint64pow10", "math/bits.deBruijn32tab", "math/bits.deBruijn64tab", "riffle/literal.words"], apart := false, laid := [("math/bits.deBruijn32tab", laid_math_bits_deBruijn32tab), ("math/bits.deBruijn64tab", laid_math_bits_deBruijn64tab), ("internal/strconv.uint64pow10", laid_internal_strconv_uint64pow10), ("riffle/literal.words", laid_riffle_literal_words), ("strconv.ErrRange", laid_strconv_ErrRange), ("strconv.ErrSyntax", laid_strconv_ErrSyntax)], narrowed := true }
def HangGrowsUptoSaid : Prop := hangGrowsUptoRow.holds Tryz.pinned (OpenSpec.upto hangGrowsSpec)

/-- 'rifflelaw17.HangWhole', WHERE WHAT IT READS IS OF BULK AT MOST 1048576: true; the input reads as it did. -/
def hangWholeUptoRow : OpenClaim := { program := "ytonlbdholdaifaagreatdoor", sum := "261df239b12bc0bfceee5095ae07c62e9d7780ef45254b950b90cfa023af41bf", func := "riffle/rifflelaw17.HangWhole", spec := "hangWhole", unfollowed := true, recurses := true, named := ["strconv.ErrSyntax", "strconv.ErrRange", "internal/strconv.uint64pow10", "math/bits.deBruijn32tab", "math/bits.deBruijn64tab", "riffle/literal.words"], apart := false, laid := [("math/bits.deBruijn32tab", laid_math_bits_deBruijn32tab), ("math/bits.deBruijn64tab", laid_math_bits_deBruijn64tab), ("internal/strconv.uint64pow10", laid_internal_strconv_uint64pow10), ("riffle/literal.words", laid_riffle_literal_words), ("strconv.ErrRange", laid_strconv_ErrRange), ("strconv.ErrSyntax", laid_strconv_ErrSyntax)], narrowed := true }
def HangWholeUptoSaid : Prop := hangWholeUptoRow.holds Tryz.pinned (OpenSpec.upto hangWholeSpec)

end Rows
end Go.Proofs.YtonlbdholdaifaaGreatDoor
