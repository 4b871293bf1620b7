/-
  NARROWER THAN 'FOR EVERY INPUT', by the rows' own cells (each row's printed sentence says how): CoinNames: laid · CoinTells: laid · CoinSums: laid · CoinTexts: laid · CoinBack: laid · CoinUndoes: laid · CoinOrder: laid · CoinParts: laid.
  DERIVED. THE GIVEN ROWS OF THIS SEAT. 8 by the template 'for every input the law returns true; each argument reads behind the call as it read before'; 0 by the template 'total and deterministic' (their statements: YtajgkmpjjdihdaaDoorTotals.lean).
  GIVEN WITH THE SEED: the statements are not yours to turn. If you find one false, say at which input.
  Laid BY PROGRAM, IN A SANDBOX (cutbox-rows.mjs): the forced cells as the released guide's own fill.sh prints them over the translation 42f25abbfa6b0002… (all of the seat's roots in one cut). By AI agents, Wed Nov 11 2026. No macro, syntax, notation, axiom, sorry.
-/
import Derived.Test.YtajgkmpjjdihdaaDoorChecked
import GoSem.Claim
import GoSem.ClaimJoined
import GoSem.ClaimMapViews
import Derived.JoinedTies
import Derived.KernelRfl
namespace Go.Proofs.YtajgkmpjjdihdaaDoor
/- THE CELL 'sum', in the pinned program and in every row, IS THE sha256 OF THE DUMP (.gsa) THAT YtajgkmpjjdihdaaDoorProg.lean LOADS. Nothing in Lean hashes anything: it is a label: what it is worth is what the hold of that sum in a sandbox is worth. -/
noncomputable def Tryd.pinned : Pinned := { name := "ytajgkmpjjdihdaadoor", sum := "42f25abbfa6b00028a4b0e115135188bd049df988aa87bd7f50eec24b7b917d5", checked := Tryd.checked }
namespace Rows
def none {H : Type} : Left H := { results := [], args := [] }

/- WHAT THE LISTED PACKAGE-LEVEL VARIABLES READ AS WHEN THE CALL BEGINS. Each datum BY PROGRAM (the guide's laid-datum.mjs) off the statement by which the dump's own 'gosem.cut.vars' lays the variable. In a bare row this is a premise. The card (YtajgkmpjjdihdaaDoorCards.lean) ties it to the program's text. -/
def laid_math_bits_deBruijn32tab {H : Type} : DataW H := .agg [.lit (.int .u8 0), .lit (.int .u8 1), .lit (.int .u8 28), .lit (.int .u8 2), .lit (.int .u8 29), .lit (.int .u8 14), .lit (.int .u8 24), .lit (.int .u8 3), .lit (.int .u8 30), .lit (.int .u8 22), .lit (.int .u8 20), .lit (.int .u8 15), .lit (.int .u8 25), .lit (.int .u8 17), .lit (.int .u8 4), .lit (.int .u8 8), .lit (.int .u8 31), .lit (.int .u8 27), .lit (.int .u8 13), .lit (.int .u8 23), .lit (.int .u8 21), .lit (.int .u8 19), .lit (.int .u8 16), .lit (.int .u8 7), .lit (.int .u8 26), .lit (.int .u8 12), .lit (.int .u8 18), .lit (.int .u8 6), .lit (.int .u8 11), .lit (.int .u8 5), .lit (.int .u8 10), .lit (.int .u8 9)]
def laid_math_bits_deBruijn64tab {H : Type} : DataW H := .agg [.lit (.int .u8 0), .lit (.int .u8 1), .lit (.int .u8 56), .lit (.int .u8 2), .lit (.int .u8 57), .lit (.int .u8 49), .lit (.int .u8 28), .lit (.int .u8 3), .lit (.int .u8 61), .lit (.int .u8 58), .lit (.int .u8 42), .lit (.int .u8 50), .lit (.int .u8 38), .lit (.int .u8 29), .lit (.int .u8 17), .lit (.int .u8 4), .lit (.int .u8 62), .lit (.int .u8 47), .lit (.int .u8 59), .lit (.int .u8 36), .lit (.int .u8 45), .lit (.int .u8 43), .lit (.int .u8 51), .lit (.int .u8 22), .lit (.int .u8 53), .lit (.int .u8 39), .lit (.int .u8 33), .lit (.int .u8 30), .lit (.int .u8 24), .lit (.int .u8 18), .lit (.int .u8 12), .lit (.int .u8 5), .lit (.int .u8 63), .lit (.int .u8 55), .lit (.int .u8 48), .lit (.int .u8 27), .lit (.int .u8 60), .lit (.int .u8 41), .lit (.int .u8 37), .lit (.int .u8 16), .lit (.int .u8 46), .lit (.int .u8 35), .lit (.int .u8 44), .lit (.int .u8 21), .lit (.int .u8 52), .lit (.int .u8 32), .lit (.int .u8 23), .lit (.int .u8 11), .lit (.int .u8 54), .lit (.int .u8 26), .lit (.int .u8 40), .lit (.int .u8 15), .lit (.int .u8 34), .lit (.int .u8 20), .lit (.int .u8 31), .lit (.int .u8 10), .lit (.int .u8 25), .lit (.int .u8 14), .lit (.int .u8 19), .lit (.int .u8 9), .lit (.int .u8 13), .lit (.int .u8 8), .lit (.int .u8 7), .lit (.int .u8 6)]
def laid_internal_strconv_uint64pow10 {H : Type} : DataW H := .agg [.lit (.int .u64 1), .lit (.int .u64 10), .lit (.int .u64 100), .lit (.int .u64 1000), .lit (.int .u64 10000), .lit (.int .u64 100000), .lit (.int .u64 1000000), .lit (.int .u64 10000000), .lit (.int .u64 100000000), .lit (.int .u64 1000000000), .lit (.int .u64 10000000000), .lit (.int .u64 100000000000), .lit (.int .u64 1000000000000), .lit (.int .u64 10000000000000), .lit (.int .u64 100000000000000), .lit (.int .u64 1000000000000000), .lit (.int .u64 10000000000000000), .lit (.int .u64 100000000000000000), .lit (.int .u64 1000000000000000000), .lit (.int .u64 10000000000000000000)]
def laid_strconv_ErrRange {H : Type} : DataW H := .iface "*errors.errorString" (.ptr (.agg [.lit (.string [118, 97, 108, 117, 101, 32, 111, 117, 116, 32, 111, 102, 32, 114, 97, 110, 103, 101])]))
def laid_strconv_ErrSyntax {H : Type} : DataW H := .iface "*errors.errorString" (.ptr (.agg [.lit (.string [105, 110, 118, 97, 108, 105, 100, 32, 115, 121, 110, 116, 97, 120])]))

/-- 'cambistlaw01.CoinNames': WHATEVER THE INPUT: true; the input reads as it did. -/
def coinNamesSpec : ChangeSpec := { name := "coinNames", fn := fun _ => fun
  | [] => { results := [.lit (.bool true)], args := [] }
  | _ => none }
def coinNamesRow : OpenClaim := { program := "ytajgkmpjjdihdaadoor", sum := "42f25abbfa6b00028a4b0e115135188bd049df988aa87bd7f50eec24b7b917d5", func := "cambist/cambistlaw01.CoinNames", spec := "coinNames", named := ["strconv.ErrSyntax", "strconv.ErrRange", "internal/strconv.uint64pow10", "math/bits.deBruijn32tab", "math/bits.deBruijn64tab"], apart := false, laid := [("math/bits.deBruijn32tab", laid_math_bits_deBruijn32tab), ("math/bits.deBruijn64tab", laid_math_bits_deBruijn64tab), ("internal/strconv.uint64pow10", laid_internal_strconv_uint64pow10), ("strconv.ErrRange", laid_strconv_ErrRange), ("strconv.ErrSyntax", laid_strconv_ErrSyntax)] }
def CoinNamesSaid : Prop := coinNamesRow.holds Tryd.pinned (OpenSpec.ofChange coinNamesSpec)

/-- ITS FALSE NEIGHBOUR: 'it returns false'. Refute it at one input. -/
def coinNamesWrong : ChangeSpec := { name := "coinNames", fn := fun _ => fun
  | [] => { results := [.lit (.bool false)], args := [] }
  | _ => none }
def CoinNamesWrongFalsely : Prop := coinNamesRow.holds Tryd.pinned (OpenSpec.ofChange coinNamesWrong)

/-- 'cambistlaw01.CoinTells': WHATEVER THE INPUT: true; the input reads as it did. -/
def coinTellsSpec : ChangeSpec := { name := "coinTells", fn := fun _ => fun
  | [d1, d2] => { results := [.lit (.bool true)], args := [d1, d2] }
  | _ => none }
def coinTellsRow : OpenClaim := { program := "ytajgkmpjjdihdaadoor", sum := "42f25abbfa6b00028a4b0e115135188bd049df988aa87bd7f50eec24b7b917d5", func := "cambist/cambistlaw01.CoinTells", spec := "coinTells", named := ["strconv.ErrSyntax", "strconv.ErrRange", "internal/strconv.uint64pow10", "math/bits.deBruijn32tab", "math/bits.deBruijn64tab"], apart := false, laid := [("math/bits.deBruijn32tab", laid_math_bits_deBruijn32tab), ("math/bits.deBruijn64tab", laid_math_bits_deBruijn64tab), ("internal/strconv.uint64pow10", laid_internal_strconv_uint64pow10), ("strconv.ErrRange", laid_strconv_ErrRange), ("strconv.ErrSyntax", laid_strconv_ErrSyntax)] }
def CoinTellsSaid : Prop := coinTellsRow.holds Tryd.pinned (OpenSpec.ofChange coinTellsSpec)

/-- ITS FALSE NEIGHBOUR: 'it returns false'. Refute it at one input. -/
def coinTellsWrong : ChangeSpec := { name := "coinTells", fn := fun _ => fun
  | [d1, d2] => { results := [.lit (.bool false)], args := [d1, d2] }
  | _ => none }
def CoinTellsWrongFalsely : Prop := coinTellsRow.holds Tryd.pinned (OpenSpec.ofChange coinTellsWrong)

/-- 'cambistlaw01.CoinSums': WHATEVER THE INPUT: true; the input reads as it did. -/
def coinSumsSpec : ChangeSpec := { name := "coinSums", fn := fun _ => fun
  | [d] => { results := [.lit (.bool true)], args := [d] }
  | _ => none }
def coinSumsRow : OpenClaim := { program := "ytajgkmpjjdihdaadoor", sum := "42f25abbfa6b00028a4b0e115135188bd049df988aa87bd7f50eec24b7b917d5", func := "cambist/cambistlaw01.CoinSums", spec := "coinSums", named := ["strconv.ErrSyntax", "strconv.ErrRange", "internal/strconv.uint64pow10", "math/bits.deBruijn32tab", "math/bits.deBruijn64tab"], apart := false, laid := [("math/bits.deBruijn32tab", laid_math_bits_deBruijn32tab), ("math/bits.deBruijn64tab", laid_math_bits_deBruijn64tab), ("internal/strconv.uint64pow10", laid_internal_strconv_uint64pow10), ("strconv.ErrRange", laid_strconv_ErrRange), ("strconv.ErrSyntax", laid_strconv_ErrSyntax)] }
def CoinSumsSaid : Prop := coinSumsRow.holds Tryd.pinned (OpenSpec.ofChange coinSumsSpec)

/-- ITS FALSE NEIGHBOUR: 'it returns false'. Refute it at one input. -/
def coinSumsWrong : ChangeSpec := { name := "coinSums", fn := fun _ => fun
  | [d] => { results := [.lit (.bool false)], args := [d] }
  | _ => none }
def CoinSumsWrongFalsely : Prop := coinSumsRow.holds Tryd.pinned (OpenSpec.ofChange coinSumsWrong)

/-- 'cambistlaw01.CoinTexts': WHATEVER THE INPUT: true; the input reads as it did. -/
def coinTextsSpec : ChangeSpec := { name := "coinTexts", fn := fun _ => fun
  | [d1, d2] => { results := [.lit (.bool true)], args := [d1, d2] }
  | _ => none }
def coinTextsRow : OpenClaim := { program := "ytajgkmpjjdihdaadoor", sum := "42f25abbfa6b00028a4b0e115135188bd049df988aa87bd7f50eec24b7b917d5", func := "cambist/cambistlaw01.CoinTexts", spec := "coinTexts", named := ["strconv.ErrSyntax", "strconv.ErrRange", "internal/strconv.uint64pow10", "math/bits.deBruijn32tab", "math/bits.deBruijn64tab"], apart := false, laid := [("math/bits.deBruijn32tab", laid_math_bits_deBruijn32tab), ("math/bits.deBruijn64tab", laid_math_bits_deBruijn64tab), ("internal/strconv.uint64pow10", laid_internal_strconv_uint64pow10), ("strconv.ErrRange", laid_strconv_ErrRange), ("strconv.ErrSyntax", laid_strconv_ErrSyntax)] }
def CoinTextsSaid : Prop := coinTextsRow.holds Tryd.pinned (OpenSpec.ofChange coinTextsSpec)

/-- ITS FALSE NEIGHBOUR: 'it returns false'. Refute it at one input. -/
def coinTextsWrong : ChangeSpec := { name := "coinTexts", fn := fun _ => fun
  | [d1, d2] => { results := [.lit (.bool false)], args := [d1, d2] }
  | _ => none }
def CoinTextsWrongFalsely : Prop := coinTextsRow.holds Tryd.pinned (OpenSpec.ofChange coinTextsWrong)

/-- 'cambistlaw01.CoinBack': WHATEVER THE INPUT: true; the input reads as it did. -/
def coinBackSpec : ChangeSpec := { name := "coinBack", fn := fun _ => fun
  | [d1, d2] => { results := [.lit (.bool true)], args := [d1, d2] }
  | _ => none }
def coinBackRow : OpenClaim := { program := "ytajgkmpjjdihdaadoor", sum := "42f25abbfa6b00028a4b0e115135188bd049df988aa87bd7f50eec24b7b917d5", func := "cambist/cambistlaw01.CoinBack", spec := "coinBack", named := ["strconv.ErrSyntax", "strconv.ErrRange", "internal/strconv.uint64pow10", "math/bits.deBruijn32tab", "math/bits.deBruijn64tab"], apart := false, laid := [("math/bits.deBruijn32tab", laid_math_bits_deBruijn32tab), ("math/bits.deBruijn64tab", laid_math_bits_deBruijn64tab), ("internal/strconv.uint64pow10", laid_internal_strconv_uint64pow10), ("strconv.ErrRange", laid_strconv_ErrRange), ("strconv.ErrSyntax", laid_strconv_ErrSyntax)] }
def CoinBackSaid : Prop := coinBackRow.holds Tryd.pinned (OpenSpec.ofChange coinBackSpec)

/-- ITS FALSE NEIGHBOUR: 'it returns false'. Refute it at one input. -/
def coinBackWrong : ChangeSpec := { name := "coinBack", fn := fun _ => fun
  | [d1, d2] => { results := [.lit (.bool false)], args := [d1, d2] }
  | _ => none }
def CoinBackWrongFalsely : Prop := coinBackRow.holds Tryd.pinned (OpenSpec.ofChange coinBackWrong)

/-- 'cambistlaw01.CoinUndoes': WHATEVER THE INPUT: true; the input reads as it did. -/
def coinUndoesSpec : ChangeSpec := { name := "coinUndoes", fn := fun _ => fun
  | [d1, d2] => { results := [.lit (.bool true)], args := [d1, d2] }
  | _ => none }
def coinUndoesRow : OpenClaim := { program := "ytajgkmpjjdihdaadoor", sum := "42f25abbfa6b00028a4b0e115135188bd049df988aa87bd7f50eec24b7b917d5", func := "cambist/cambistlaw01.CoinUndoes", spec := "coinUndoes", named := ["strconv.ErrSyntax", "strconv.ErrRange", "internal/strconv.uint64pow10", "math/bits.deBruijn32tab", "math/bits.deBruijn64tab"], apart := false, laid := [("math/bits.deBruijn32tab", laid_math_bits_deBruijn32tab), ("math/bits.deBruijn64tab", laid_math_bits_deBruijn64tab), ("internal/strconv.uint64pow10", laid_internal_strconv_uint64pow10), ("strconv.ErrRange", laid_strconv_ErrRange), ("strconv.ErrSyntax", laid_strconv_ErrSyntax)] }
def CoinUndoesSaid : Prop := coinUndoesRow.holds Tryd.pinned (OpenSpec.ofChange coinUndoesSpec)

/-- ITS FALSE NEIGHBOUR: 'it returns false'. Refute it at one input. -/
def coinUndoesWrong : ChangeSpec := { name := "coinUndoes", fn := fun _ => fun
  | [d1, d2] => { results := [.lit (.bool false)], args := [d1, d2] }
  | _ => none }
def CoinUndoesWrongFalsely : Prop := coinUndoesRow.holds Tryd.pinned (OpenSpec.ofChange coinUndoesWrong)

/-- 'cambistlaw01.CoinOrder': WHATEVER THE INPUT: true; the input reads as it did. -/
def coinOrderSpec : ChangeSpec := { name := "coinOrder", fn := fun _ => fun
  | [d1, d2, d3] => { results := [.lit (.bool true)], args := [d1, d2, d3] }
  | _ => none }
def coinOrderRow : OpenClaim := { program := "ytajgkmpjjdihdaadoor", sum := "42f25abbfa6b00028a4b0e115135188bd049df988aa87bd7f50eec24b7b917d5", func := "cambist/cambistlaw01.CoinOrder", spec := "coinOrder", named := ["strconv.ErrSyntax", "strconv.ErrRange", "internal/strconv.uint64pow10", "math/bits.deBruijn32tab", "math/bits.deBruijn64tab"], apart := false, laid := [("math/bits.deBruijn32tab", laid_math_bits_deBruijn32tab), ("math/bits.deBruijn64tab", laid_math_bits_deBruijn64tab), ("internal/strconv.uint64pow10", laid_internal_strconv_uint64pow10), ("strconv.ErrRange", laid_strconv_ErrRange), ("strconv.ErrSyntax", laid_strconv_ErrSyntax)] }
def CoinOrderSaid : Prop := coinOrderRow.holds Tryd.pinned (OpenSpec.ofChange coinOrderSpec)

/-- ITS FALSE NEIGHBOUR: 'it returns false'. Refute it at one input. -/
def coinOrderWrong : ChangeSpec := { name := "coinOrder", fn := fun _ => fun
  | [d1, d2, d3] => { results := [.lit (.bool false)], args := [d1, d2, d3] }
  | _ => none }
def CoinOrderWrongFalsely : Prop := coinOrderRow.holds Tryd.pinned (OpenSpec.ofChange coinOrderWrong)

/-- 'cambistlaw01.CoinParts': WHATEVER THE INPUT: true; the input reads as it did. -/
def coinPartsSpec : ChangeSpec := { name := "coinParts", fn := fun _ => fun
  | [d1, d2] => { results := [.lit (.bool true)], args := [d1, d2] }
  | _ => none }
def coinPartsRow : OpenClaim := { program := "ytajgkmpjjdihdaadoor", sum := "42f25abbfa6b00028a4b0e115135188bd049df988aa87bd7f50eec24b7b917d5", func := "cambist/cambistlaw01.CoinParts", spec := "coinParts", named := ["strconv.ErrSyntax", "strconv.ErrRange", "internal/strconv.uint64pow10", "math/bits.deBruijn32tab", "math/bits.deBruijn64tab"], apart := false, laid := [("math/bits.deBruijn32tab", laid_math_bits_deBruijn32tab), ("math/bits.deBruijn64tab", laid_math_bits_deBruijn64tab), ("internal/strconv.uint64pow10", laid_internal_strconv_uint64pow10), ("strconv.ErrRange", laid_strconv_ErrRange), ("strconv.ErrSyntax", laid_strconv_ErrSyntax)] }
def CoinPartsSaid : Prop := coinPartsRow.holds Tryd.pinned (OpenSpec.ofChange coinPartsSpec)

/-- ITS FALSE NEIGHBOUR: 'it returns false'. Refute it at one input. -/
def coinPartsWrong : ChangeSpec := { name := "coinParts", fn := fun _ => fun
  | [d1, d2] => { results := [.lit (.bool false)], args := [d1, d2] }
  | _ => none }
def CoinPartsWrongFalsely : Prop := coinPartsRow.holds Tryd.pinned (OpenSpec.ofChange coinPartsWrong)

/- THE SECOND FORM. 'bulk': how many values and letters a reading holds, each counted each time it is reached (what is shared counts as often as it is met; a slice's spare places count too). A statement '..UptoSaid' is the law's where the arguments, and the package variables that the reading takes, are together of bulk at most 1048576: NARROWER than '..Said'. Prove '..Said' where nothing that the law and all that it calls make is longer than what came in: it says more and counts as full. Else prove '..UptoSaid'. A law counts once. -/
mutual
def uptoBulk {H : Type} : DataW H → Nat
  | .lit (.string bytes) => bytes.length + 1
  | .lit _ => 1
  | .nil => 1
  | .ptr d => uptoBulk d + 1
  | .slice elems spare => uptoBulkAll elems + uptoBulkAll spare + 1
  | .agg parts => uptoBulkAll parts + 1
  | .iface _ d => uptoBulk d + 1
  | .map entries => uptoBulkEntries entries + 1
  | .held _ => 1
def uptoBulkAll {H : Type} : List (DataW H) → Nat
  | [] => 0
  | d :: r => uptoBulk d + uptoBulkAll r
def uptoBulkEntries {H : Type} : List (Lit × DataW H) → Nat
  | [] => 0
  | x :: r => uptoBulkEntry x + uptoBulkEntries r
def uptoBulkEntry {H : Type} : Lit × DataW H → Nat
  | (.string bytes, d) => bytes.length + uptoBulk d + 1
  | (_, d) => uptoBulk d + 1
 end
def uptoSmall : (H : Type) → List (DataW H) → Bool := fun _ ds => decide (uptoBulkAll ds ≤ 1048576)
def OpenSpec.upto (s : _root_.Go.ChangeSpec) : _root_.Go.OpenSpec := { _root_.Go.OpenSpec.ofChange s with cond := some uptoSmall }

/-- 'cambistlaw01.CoinNames', WHERE WHAT IT READS IS OF BULK AT MOST 1048576: true; the input reads as it did. -/
def coinNamesUptoRow : OpenClaim := { program := "ytajgkmpjjdihdaadoor", sum := "42f25abbfa6b00028a4b0e115135188bd049df988aa87bd7f50eec24b7b917d5", func := "cambist/cambistlaw01.CoinNames", spec := "coinNames", named := ["strconv.ErrSyntax", "strconv.ErrRange", "internal/strconv.uint64pow10", "math/bits.deBruijn32tab", "math/bits.deBruijn64tab"], apart := false, laid := [("math/bits.deBruijn32tab", laid_math_bits_deBruijn32tab), ("math/bits.deBruijn64tab", laid_math_bits_deBruijn64tab), ("internal/strconv.uint64pow10", laid_internal_strconv_uint64pow10), ("strconv.ErrRange", laid_strconv_ErrRange), ("strconv.ErrSyntax", laid_strconv_ErrSyntax)], narrowed := true }
def CoinNamesUptoSaid : Prop := coinNamesUptoRow.holds Tryd.pinned (OpenSpec.upto coinNamesSpec)

/-- 'cambistlaw01.CoinTells', WHERE WHAT IT READS IS OF BULK AT MOST 1048576: true; the input reads as it did. -/
def coinTellsUptoRow : OpenClaim := { program := "ytajgkmpjjdihdaadoor", sum := "42f25abbfa6b00028a4b0e115135188bd049df988aa87bd7f50eec24b7b917d5", func := "cambist/cambistlaw01.CoinTells", spec := "coinTells", named := ["strconv.ErrSyntax", "strconv.ErrRange", "internal/strconv.uint64pow10", "math/bits.deBruijn32tab", "math/bits.deBruijn64tab"], apart := false, laid := [("math/bits.deBruijn32tab", laid_math_bits_deBruijn32tab), ("math/bits.deBruijn64tab", laid_math_bits_deBruijn64tab), ("internal/strconv.uint64pow10", laid_internal_strconv_uint64pow10), ("strconv.ErrRange", laid_strconv_ErrRange), ("strconv.ErrSyntax", laid_strconv_ErrSyntax)], narrowed := true }
def CoinTellsUptoSaid : Prop := coinTellsUptoRow.holds Tryd.pinned (OpenSpec.upto coinTellsSpec)

/-- 'cambistlaw01.CoinSums', WHERE WHAT IT READS IS OF BULK AT MOST 1048576: true; the input reads as it did. -/
def coinSumsUptoRow : OpenClaim := { program := "ytajgkmpjjdihdaadoor", sum := "42f25abbfa6b00028a4b0e115135188bd049df988aa87bd7f50eec24b7b917d5", func := "cambist/cambistlaw01.CoinSums", spec := "coinSums", named := ["strconv.ErrSyntax", "strconv.ErrRange", "internal/strconv.uint64pow10", "math/bits.deBruijn32tab", "math/bits.deBruijn64tab"], apart := false, laid := [("math/bits.deBruijn32tab", laid_math_bits_deBruijn32tab), ("math/bits.deBruijn64tab", laid_math_bits_deBruijn64tab), ("internal/strconv.uint64pow10", laid_internal_strconv_uint64pow10), ("strconv.ErrRange", laid_strconv_ErrRange), ("strconv.ErrSyntax", laid_strconv_ErrSyntax)], narrowed := true }
def CoinSumsUptoSaid : Prop := coinSumsUptoRow.holds Tryd.pinned (OpenSpec.upto coinSumsSpec)

/-- 'cambistlaw01.CoinTexts', WHERE WHAT IT READS IS OF BULK AT MOST 1048576: true; the input reads as it did. -/
def coinTextsUptoRow : OpenClaim := { program := "ytajgkmpjjdihdaadoor", sum := "42f25abbfa6b00028a4b0e115135188bd049df988aa87bd7f50eec24b7b917d5", func := "cambist/cambistlaw01.CoinTexts", spec := "coinTexts", named := ["strconv.ErrSyntax", "strconv.ErrRange", "internal/strconv.uint64pow10", "math/bits.deBruijn32tab", "math/bits.deBruijn64tab"], apart := false, laid := [("math/bits.deBruijn32tab", laid_math_bits_deBruijn32tab), ("math/bits.deBruijn64tab", laid_math_bits_deBruijn64tab), ("internal/strconv.uint64pow10", laid_internal_strconv_uint64pow10), ("strconv.ErrRange", laid_strconv_ErrRange), ("strconv.ErrSyntax", laid_strconv_ErrSyntax)], narrowed := true }
def CoinTextsUptoSaid : Prop := coinTextsUptoRow.holds Tryd.pinned (OpenSpec.upto coinTextsSpec)

/-- 'cambistlaw01.CoinBack', WHERE WHAT IT READS IS OF BULK AT MOST 1048576: true; the input reads as it did. -/
def coinBackUptoRow : OpenClaim := { program := "ytajgkmpjjdihdaadoor", sum := "42f25abbfa6b00028a4b0e115135188bd049df988aa87bd7f50eec24b7b917d5", func := "cambist/cambistlaw01.CoinBack", spec := "coinBack", named := ["strconv.ErrSyntax", "strconv.ErrRange", "internal/strconv.uint64pow10", "math/bits.deBruijn32tab", "math/bits.deBruijn64tab"], apart := false, laid := [("math/bits.deBruijn32tab", laid_math_bits_deBruijn32tab), ("math/bits.deBruijn64tab", laid_math_bits_deBruijn64tab), ("internal/strconv.uint64pow10", laid_internal_strconv_uint64pow10), ("strconv.ErrRange", laid_strconv_ErrRange), ("strconv.ErrSyntax", laid_strconv_ErrSyntax)], narrowed := true }
def CoinBackUptoSaid : Prop := coinBackUptoRow.holds Tryd.pinned (OpenSpec.upto coinBackSpec)

/-- 'cambistlaw01.CoinUndoes', WHERE WHAT IT READS IS OF BULK AT MOST 1048576: true; the input reads as it did. -/
def coinUndoesUptoRow : OpenClaim := { program := "ytajgkmpjjdihdaadoor", sum := "42f25abbfa6b00028a4b0e115135188bd049df988aa87bd7f50eec24b7b917d5", func := "cambist/cambistlaw01.CoinUndoes", spec := "coinUndoes", named := ["strconv.ErrSyntax", "strconv.ErrRange", "internal/strconv.uint64pow10", "math/bits.deBruijn32tab", "math/bits.deBruijn64tab"], apart := false, laid := [("math/bits.deBruijn32tab", laid_math_bits_deBruijn32tab), ("math/bits.deBruijn64tab", laid_math_bits_deBruijn64tab), ("internal/strconv.uint64pow10", laid_internal_strconv_uint64pow10), ("strconv.ErrRange", laid_strconv_ErrRange), ("strconv.ErrSyntax", laid_strconv_ErrSyntax)], narrowed := true }
def CoinUndoesUptoSaid : Prop := coinUndoesUptoRow.holds Tryd.pinned (OpenSpec.upto coinUndoesSpec)

/-- 'cambistlaw01.CoinOrder', WHERE WHAT IT READS IS OF BULK AT MOST 1048576: true; the input reads as it did. -/
def coinOrderUptoRow : OpenClaim := { program := "ytajgkmpjjdihdaadoor", sum := "42f25abbfa6b00028a4b0e115135188bd049df988aa87bd7f50eec24b7b917d5", func := "cambist/cambistlaw01.CoinOrder", spec := "coinOrder", named := ["strconv.ErrSyntax", "strconv.ErrRange", "internal/strconv.uint64pow10", "math/bits.deBruijn32tab", "math/bits.deBruijn64tab"], apart := false, laid := [("math/bits.deBruijn32tab", laid_math_bits_deBruijn32tab), ("math/bits.deBruijn64tab", laid_math_bits_deBruijn64tab), ("internal/strconv.uint64pow10", laid_internal_strconv_uint64pow10), ("strconv.ErrRange", laid_strconv_ErrRange), ("strconv.ErrSyntax", laid_strconv_ErrSyntax)], narrowed := true }
def CoinOrderUptoSaid : Prop := coinOrderUptoRow.holds Tryd.pinned (OpenSpec.upto coinOrderSpec)

/-- 'cambistlaw01.CoinParts', WHERE WHAT IT READS IS OF BULK AT MOST 1048576: true; the input reads as it did. -/
def coinPartsUptoRow : OpenClaim := { program := "ytajgkmpjjdihdaadoor", sum := "42f25abbfa6b00028a4b0e115135188bd049df988aa87bd7f50eec24b7b917d5", func := "cambist/cambistlaw01.CoinParts", spec := "coinParts", named := ["strconv.ErrSyntax", "strconv.ErrRange", "internal/strconv.uint64pow10", "math/bits.deBruijn32tab", "math/bits.deBruijn64tab"], apart := false, laid := [("math/bits.deBruijn32tab", laid_math_bits_deBruijn32tab), ("math/bits.deBruijn64tab", laid_math_bits_deBruijn64tab), ("internal/strconv.uint64pow10", laid_internal_strconv_uint64pow10), ("strconv.ErrRange", laid_strconv_ErrRange), ("strconv.ErrSyntax", laid_strconv_ErrSyntax)], narrowed := true }
def CoinPartsUptoSaid : Prop := coinPartsUptoRow.holds Tryd.pinned (OpenSpec.upto coinPartsSpec)

end Rows
end Go.Proofs.YtajgkmpjjdihdaaDoor
