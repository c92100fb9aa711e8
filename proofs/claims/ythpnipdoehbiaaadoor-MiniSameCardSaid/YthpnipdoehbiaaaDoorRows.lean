/-
  NARROWER THAN 'FOR EVERY INPUT', by the rows' own cells (each row's printed sentence says how): MiniAll: laid · MiniSays: laid · MiniFewest: laid · MiniSame: laid · MiniPicks: laid · MiniAgain: laid · MiniNames: laid · MiniOne: laid · MiniCounts: laid · MiniOwn: laid.
  DERIVED. THE GIVEN ROWS OF THIS SEAT. 10 by the template 'for every input the law returns true; each argument reads behind the call as it read before'; 0 by the template 'total and deterministic' (their statements: YthpnipdoehbiaaaDoorTotals.lean).
  GIVEN WITH THE SEED: the statements are not yours to turn. If you find one false, say at which input.
  Laid BY PROGRAM, IN A SANDBOX (cutbox-rows.mjs): the forced cells as the released guide's own fill.sh prints them over the translation 1cf42c62af69f471… (all of the seat's roots in one cut). By AI agents, Wed Nov 11 2026. No macro, syntax, notation, axiom, sorry.
-/
import Derived.Test.YthpnipdoehbiaaaDoorChecked
import GoSem.Claim
import GoSem.ClaimJoined
import GoSem.ClaimMapViews
import Derived.JoinedTies
import Derived.KernelRfl
namespace Go.Proofs.YthpnipdoehbiaaaDoor
/- THE CELL 'sum', in the pinned program and in every row, IS THE sha256 OF THE DUMP (.gsa) THAT YthpnipdoehbiaaaDoorProg.lean LOADS. Nothing in Lean hashes anything: it is a label: what it is worth is what the hold of that sum in a sandbox is worth. -/
noncomputable def Tryd.pinned : Pinned := { name := "ythpnipdoehbiaaadoor", sum := "1cf42c62af69f4717a7bf3e8b9e5f6f9d1234a71929f31d4e8e605bbbd5bb288", checked := Tryd.checked }
namespace Rows
def none {H : Type} : Left H := { results := [], args := [] }

/- WHAT THE LISTED PACKAGE-LEVEL VARIABLES READ AS WHEN THE CALL BEGINS. Each datum BY PROGRAM (the guide's laid-datum.mjs) off the statement by which the dump's own 'gosem.cut.vars' lays the variable. In a bare row this is a premise. The card (YthpnipdoehbiaaaDoorCards.lean) ties it to the program's text. -/
def laid_math_bits_deBruijn32tab {H : Type} : DataW H := .agg [.lit (.int .u8 0), .lit (.int .u8 1), .lit (.int .u8 28), .lit (.int .u8 2), .lit (.int .u8 29), .lit (.int .u8 14), .lit (.int .u8 24), .lit (.int .u8 3), .lit (.int .u8 30), .lit (.int .u8 22), .lit (.int .u8 20), .lit (.int .u8 15), .lit (.int .u8 25), .lit (.int .u8 17), .lit (.int .u8 4), .lit (.int .u8 8), .lit (.int .u8 31), .lit (.int .u8 27), .lit (.int .u8 13), .lit (.int .u8 23), .lit (.int .u8 21), .lit (.int .u8 19), .lit (.int .u8 16), .lit (.int .u8 7), .lit (.int .u8 26), .lit (.int .u8 12), .lit (.int .u8 18), .lit (.int .u8 6), .lit (.int .u8 11), .lit (.int .u8 5), .lit (.int .u8 10), .lit (.int .u8 9)]
def laid_math_bits_deBruijn64tab {H : Type} : DataW H := .agg [.lit (.int .u8 0), .lit (.int .u8 1), .lit (.int .u8 56), .lit (.int .u8 2), .lit (.int .u8 57), .lit (.int .u8 49), .lit (.int .u8 28), .lit (.int .u8 3), .lit (.int .u8 61), .lit (.int .u8 58), .lit (.int .u8 42), .lit (.int .u8 50), .lit (.int .u8 38), .lit (.int .u8 29), .lit (.int .u8 17), .lit (.int .u8 4), .lit (.int .u8 62), .lit (.int .u8 47), .lit (.int .u8 59), .lit (.int .u8 36), .lit (.int .u8 45), .lit (.int .u8 43), .lit (.int .u8 51), .lit (.int .u8 22), .lit (.int .u8 53), .lit (.int .u8 39), .lit (.int .u8 33), .lit (.int .u8 30), .lit (.int .u8 24), .lit (.int .u8 18), .lit (.int .u8 12), .lit (.int .u8 5), .lit (.int .u8 63), .lit (.int .u8 55), .lit (.int .u8 48), .lit (.int .u8 27), .lit (.int .u8 60), .lit (.int .u8 41), .lit (.int .u8 37), .lit (.int .u8 16), .lit (.int .u8 46), .lit (.int .u8 35), .lit (.int .u8 44), .lit (.int .u8 21), .lit (.int .u8 52), .lit (.int .u8 32), .lit (.int .u8 23), .lit (.int .u8 11), .lit (.int .u8 54), .lit (.int .u8 26), .lit (.int .u8 40), .lit (.int .u8 15), .lit (.int .u8 34), .lit (.int .u8 20), .lit (.int .u8 31), .lit (.int .u8 10), .lit (.int .u8 25), .lit (.int .u8 14), .lit (.int .u8 19), .lit (.int .u8 9), .lit (.int .u8 13), .lit (.int .u8 8), .lit (.int .u8 7), .lit (.int .u8 6)]
def laid_internal_strconv_uint64pow10 {H : Type} : DataW H := .agg [.lit (.int .u64 1), .lit (.int .u64 10), .lit (.int .u64 100), .lit (.int .u64 1000), .lit (.int .u64 10000), .lit (.int .u64 100000), .lit (.int .u64 1000000), .lit (.int .u64 10000000), .lit (.int .u64 100000000), .lit (.int .u64 1000000000), .lit (.int .u64 10000000000), .lit (.int .u64 100000000000), .lit (.int .u64 1000000000000), .lit (.int .u64 10000000000000), .lit (.int .u64 100000000000000), .lit (.int .u64 1000000000000000), .lit (.int .u64 10000000000000000), .lit (.int .u64 100000000000000000), .lit (.int .u64 1000000000000000000), .lit (.int .u64 10000000000000000000)]

/-- 'hyphenlaw11.MiniAll': WHATEVER THE INPUT: true; the input reads as it did. -/
def miniAllSpec : ChangeSpec := { name := "miniAll", fn := fun _ => fun
  | [d1, d2, d3] => { results := [.lit (.bool true)], args := [d1, d2, d3] }
  | _ => none }
def miniAllRow : OpenClaim := { program := "ythpnipdoehbiaaadoor", sum := "1cf42c62af69f4717a7bf3e8b9e5f6f9d1234a71929f31d4e8e605bbbd5bb288", func := "hyphen/hyphenlaw11.MiniAll", spec := "miniAll", inPlace := ["internal/abi.NoEscape", "internal/bytealg.MakeNoZero"], unfollowed := true, recurses := true, named := ["internal/strconv.uint64pow10", "math/bits.deBruijn32tab", "math/bits.deBruijn64tab"], apart := false, laid := [("math/bits.deBruijn32tab", laid_math_bits_deBruijn32tab), ("math/bits.deBruijn64tab", laid_math_bits_deBruijn64tab), ("internal/strconv.uint64pow10", laid_internal_strconv_uint64pow10)] }
def MiniAllSaid : Prop := miniAllRow.holds Tryd.pinned (OpenSpec.ofChange miniAllSpec)

/-- ITS FALSE NEIGHBOUR: 'it returns false'. Refute it at one input. -/
def miniAllWrong : ChangeSpec := { name := "miniAll", fn := fun _ => fun
  | [d1, d2, d3] => { results := [.lit (.bool false)], args := [d1, d2, d3] }
  | _ => none }
def MiniAllWrongFalsely : Prop := miniAllRow.holds Tryd.pinned (OpenSpec.ofChange miniAllWrong)

/-- 'hyphenlaw11.MiniSays': WHATEVER THE INPUT: true; the input reads as it did. -/
def miniSaysSpec : ChangeSpec := { name := "miniSays", fn := fun _ => fun
  | [d1, d2, d3, d4, d5] => { results := [.lit (.bool true)], args := [d1, d2, d3, d4, d5] }
  | _ => none }
def miniSaysRow : OpenClaim := { program := "ythpnipdoehbiaaadoor", sum := "1cf42c62af69f4717a7bf3e8b9e5f6f9d1234a71929f31d4e8e605bbbd5bb288", func := "hyphen/hyphenlaw11.MiniSays", spec := "miniSays", inPlace := ["internal/abi.NoEscape", "internal/bytealg.MakeNoZero"], unfollowed := true, recurses := true, named := ["internal/strconv.uint64pow10", "math/bits.deBruijn32tab", "math/bits.deBruijn64tab"], apart := false, laid := [("math/bits.deBruijn32tab", laid_math_bits_deBruijn32tab), ("math/bits.deBruijn64tab", laid_math_bits_deBruijn64tab), ("internal/strconv.uint64pow10", laid_internal_strconv_uint64pow10)] }
def MiniSaysSaid : Prop := miniSaysRow.holds Tryd.pinned (OpenSpec.ofChange miniSaysSpec)

/-- ITS FALSE NEIGHBOUR: 'it returns false'. Refute it at one input. -/
def miniSaysWrong : ChangeSpec := { name := "miniSays", fn := fun _ => fun
  | [d1, d2, d3, d4, d5] => { results := [.lit (.bool false)], args := [d1, d2, d3, d4, d5] }
  | _ => none }
def MiniSaysWrongFalsely : Prop := miniSaysRow.holds Tryd.pinned (OpenSpec.ofChange miniSaysWrong)

/-- 'hyphenlaw11.MiniFewest': WHATEVER THE INPUT: true; the input reads as it did. -/
def miniFewestSpec : ChangeSpec := { name := "miniFewest", fn := fun _ => fun
  | [d1, d2, d3] => { results := [.lit (.bool true)], args := [d1, d2, d3] }
  | _ => none }
def miniFewestRow : OpenClaim := { program := "ythpnipdoehbiaaadoor", sum := "1cf42c62af69f4717a7bf3e8b9e5f6f9d1234a71929f31d4e8e605bbbd5bb288", func := "hyphen/hyphenlaw11.MiniFewest", spec := "miniFewest", inPlace := ["internal/abi.NoEscape", "internal/bytealg.MakeNoZero"], unfollowed := true, recurses := true, named := ["internal/strconv.uint64pow10", "math/bits.deBruijn32tab", "math/bits.deBruijn64tab"], apart := false, laid := [("math/bits.deBruijn32tab", laid_math_bits_deBruijn32tab), ("math/bits.deBruijn64tab", laid_math_bits_deBruijn64tab), ("internal/strconv.uint64pow10", laid_internal_strconv_uint64pow10)] }
def MiniFewestSaid : Prop := miniFewestRow.holds Tryd.pinned (OpenSpec.ofChange miniFewestSpec)

/-- ITS FALSE NEIGHBOUR: 'it returns false'. Refute it at one input. -/
def miniFewestWrong : ChangeSpec := { name := "miniFewest", fn := fun _ => fun
  | [d1, d2, d3] => { results := [.lit (.bool false)], args := [d1, d2, d3] }
  | _ => none }
def MiniFewestWrongFalsely : Prop := miniFewestRow.holds Tryd.pinned (OpenSpec.ofChange miniFewestWrong)

/-- 'hyphenlaw11.MiniSame': WHATEVER THE INPUT: true; the input reads as it did. -/
def miniSameSpec : ChangeSpec := { name := "miniSame", fn := fun _ => fun
  | [d1, d2, d3, d4, d5] => { results := [.lit (.bool true)], args := [d1, d2, d3, d4, d5] }
  | _ => none }
def miniSameRow : OpenClaim := { program := "ythpnipdoehbiaaadoor", sum := "1cf42c62af69f4717a7bf3e8b9e5f6f9d1234a71929f31d4e8e605bbbd5bb288", func := "hyphen/hyphenlaw11.MiniSame", spec := "miniSame", inPlace := ["internal/abi.NoEscape", "internal/bytealg.MakeNoZero"], unfollowed := true, recurses := true, named := ["internal/strconv.uint64pow10", "math/bits.deBruijn32tab", "math/bits.deBruijn64tab"], apart := false, laid := [("math/bits.deBruijn32tab", laid_math_bits_deBruijn32tab), ("math/bits.deBruijn64tab", laid_math_bits_deBruijn64tab), ("internal/strconv.uint64pow10", laid_internal_strconv_uint64pow10)] }
def MiniSameSaid : Prop := miniSameRow.holds Tryd.pinned (OpenSpec.ofChange miniSameSpec)

/-- ITS FALSE NEIGHBOUR: 'it returns false'. Refute it at one input. -/
def miniSameWrong : ChangeSpec := { name := "miniSame", fn := fun _ => fun
  | [d1, d2, d3, d4, d5] => { results := [.lit (.bool false)], args := [d1, d2, d3, d4, d5] }
  | _ => none }
def MiniSameWrongFalsely : Prop := miniSameRow.holds Tryd.pinned (OpenSpec.ofChange miniSameWrong)

/-- 'hyphenlaw11.MiniPicks': WHATEVER THE INPUT: true; the input reads as it did. -/
def miniPicksSpec : ChangeSpec := { name := "miniPicks", fn := fun _ => fun
  | [d1, d2, d3, d4] => { results := [.lit (.bool true)], args := [d1, d2, d3, d4] }
  | _ => none }
def miniPicksRow : OpenClaim := { program := "ythpnipdoehbiaaadoor", sum := "1cf42c62af69f4717a7bf3e8b9e5f6f9d1234a71929f31d4e8e605bbbd5bb288", func := "hyphen/hyphenlaw11.MiniPicks", spec := "miniPicks", inPlace := ["internal/abi.NoEscape", "internal/bytealg.MakeNoZero"], unfollowed := true, recurses := true, named := ["internal/strconv.uint64pow10", "math/bits.deBruijn32tab", "math/bits.deBruijn64tab"], apart := false, laid := [("math/bits.deBruijn32tab", laid_math_bits_deBruijn32tab), ("math/bits.deBruijn64tab", laid_math_bits_deBruijn64tab), ("internal/strconv.uint64pow10", laid_internal_strconv_uint64pow10)] }
def MiniPicksSaid : Prop := miniPicksRow.holds Tryd.pinned (OpenSpec.ofChange miniPicksSpec)

/-- ITS FALSE NEIGHBOUR: 'it returns false'. Refute it at one input. -/
def miniPicksWrong : ChangeSpec := { name := "miniPicks", fn := fun _ => fun
  | [d1, d2, d3, d4] => { results := [.lit (.bool false)], args := [d1, d2, d3, d4] }
  | _ => none }
def MiniPicksWrongFalsely : Prop := miniPicksRow.holds Tryd.pinned (OpenSpec.ofChange miniPicksWrong)

/-- 'hyphenlaw11.MiniAgain': WHATEVER THE INPUT: true; the input reads as it did. -/
def miniAgainSpec : ChangeSpec := { name := "miniAgain", fn := fun _ => fun
  | [d1, d2, d3] => { results := [.lit (.bool true)], args := [d1, d2, d3] }
  | _ => none }
def miniAgainRow : OpenClaim := { program := "ythpnipdoehbiaaadoor", sum := "1cf42c62af69f4717a7bf3e8b9e5f6f9d1234a71929f31d4e8e605bbbd5bb288", func := "hyphen/hyphenlaw11.MiniAgain", spec := "miniAgain", inPlace := ["internal/abi.NoEscape", "internal/bytealg.MakeNoZero"], unfollowed := true, recurses := true, named := ["internal/strconv.uint64pow10", "math/bits.deBruijn32tab", "math/bits.deBruijn64tab"], apart := false, laid := [("math/bits.deBruijn32tab", laid_math_bits_deBruijn32tab), ("math/bits.deBruijn64tab", laid_math_bits_deBruijn64tab), ("internal/strconv.uint64pow10", laid_internal_strconv_uint64pow10)] }
def MiniAgainSaid : Prop := miniAgainRow.holds Tryd.pinned (OpenSpec.ofChange miniAgainSpec)

/-- ITS FALSE NEIGHBOUR: 'it returns false'. Refute it at one input. -/
def miniAgainWrong : ChangeSpec := { name := "miniAgain", fn := fun _ => fun
  | [d1, d2, d3] => { results := [.lit (.bool false)], args := [d1, d2, d3] }
  | _ => none }
def MiniAgainWrongFalsely : Prop := miniAgainRow.holds Tryd.pinned (OpenSpec.ofChange miniAgainWrong)

/-- 'hyphenlaw11.MiniNames': WHATEVER THE INPUT: true; the input reads as it did. -/
def miniNamesSpec : ChangeSpec := { name := "miniNames", fn := fun _ => fun
  | [d1, d2, d3] => { results := [.lit (.bool true)], args := [d1, d2, d3] }
  | _ => none }
def miniNamesRow : OpenClaim := { program := "ythpnipdoehbiaaadoor", sum := "1cf42c62af69f4717a7bf3e8b9e5f6f9d1234a71929f31d4e8e605bbbd5bb288", func := "hyphen/hyphenlaw11.MiniNames", spec := "miniNames", inPlace := ["internal/abi.NoEscape", "internal/bytealg.MakeNoZero"], unfollowed := true, recurses := true, named := ["internal/strconv.uint64pow10", "math/bits.deBruijn32tab", "math/bits.deBruijn64tab"], apart := false, laid := [("math/bits.deBruijn32tab", laid_math_bits_deBruijn32tab), ("math/bits.deBruijn64tab", laid_math_bits_deBruijn64tab), ("internal/strconv.uint64pow10", laid_internal_strconv_uint64pow10)] }
def MiniNamesSaid : Prop := miniNamesRow.holds Tryd.pinned (OpenSpec.ofChange miniNamesSpec)

/-- ITS FALSE NEIGHBOUR: 'it returns false'. Refute it at one input. -/
def miniNamesWrong : ChangeSpec := { name := "miniNames", fn := fun _ => fun
  | [d1, d2, d3] => { results := [.lit (.bool false)], args := [d1, d2, d3] }
  | _ => none }
def MiniNamesWrongFalsely : Prop := miniNamesRow.holds Tryd.pinned (OpenSpec.ofChange miniNamesWrong)

/-- 'hyphenlaw11.MiniOne': WHATEVER THE INPUT: true; the input reads as it did. -/
def miniOneSpec : ChangeSpec := { name := "miniOne", fn := fun _ => fun
  | [d1, d2, d3, d4] => { results := [.lit (.bool true)], args := [d1, d2, d3, d4] }
  | _ => none }
def miniOneRow : OpenClaim := { program := "ythpnipdoehbiaaadoor", sum := "1cf42c62af69f4717a7bf3e8b9e5f6f9d1234a71929f31d4e8e605bbbd5bb288", func := "hyphen/hyphenlaw11.MiniOne", spec := "miniOne", inPlace := ["internal/abi.NoEscape", "internal/bytealg.MakeNoZero"], unfollowed := true, recurses := true, named := ["internal/strconv.uint64pow10", "math/bits.deBruijn32tab", "math/bits.deBruijn64tab"], apart := false, laid := [("math/bits.deBruijn32tab", laid_math_bits_deBruijn32tab), ("math/bits.deBruijn64tab", laid_math_bits_deBruijn64tab), ("internal/strconv.uint64pow10", laid_internal_strconv_uint64pow10)] }
def MiniOneSaid : Prop := miniOneRow.holds Tryd.pinned (OpenSpec.ofChange miniOneSpec)

/-- ITS FALSE NEIGHBOUR: 'it returns false'. Refute it at one input. -/
def miniOneWrong : ChangeSpec := { name := "miniOne", fn := fun _ => fun
  | [d1, d2, d3, d4] => { results := [.lit (.bool false)], args := [d1, d2, d3, d4] }
  | _ => none }
def MiniOneWrongFalsely : Prop := miniOneRow.holds Tryd.pinned (OpenSpec.ofChange miniOneWrong)

/-- 'hyphenlaw11.MiniCounts': WHATEVER THE INPUT: true; the input reads as it did. -/
def miniCountsSpec : ChangeSpec := { name := "miniCounts", fn := fun _ => fun
  | [d1, d2, d3] => { results := [.lit (.bool true)], args := [d1, d2, d3] }
  | _ => none }
def miniCountsRow : OpenClaim := { program := "ythpnipdoehbiaaadoor", sum := "1cf42c62af69f4717a7bf3e8b9e5f6f9d1234a71929f31d4e8e605bbbd5bb288", func := "hyphen/hyphenlaw11.MiniCounts", spec := "miniCounts", inPlace := ["internal/abi.NoEscape", "internal/bytealg.MakeNoZero"], unfollowed := true, recurses := true, named := ["internal/strconv.uint64pow10", "math/bits.deBruijn32tab", "math/bits.deBruijn64tab"], apart := false, laid := [("math/bits.deBruijn32tab", laid_math_bits_deBruijn32tab), ("math/bits.deBruijn64tab", laid_math_bits_deBruijn64tab), ("internal/strconv.uint64pow10", laid_internal_strconv_uint64pow10)] }
def MiniCountsSaid : Prop := miniCountsRow.holds Tryd.pinned (OpenSpec.ofChange miniCountsSpec)

/-- ITS FALSE NEIGHBOUR: 'it returns false'. Refute it at one input. -/
def miniCountsWrong : ChangeSpec := { name := "miniCounts", fn := fun _ => fun
  | [d1, d2, d3] => { results := [.lit (.bool false)], args := [d1, d2, d3] }
  | _ => none }
def MiniCountsWrongFalsely : Prop := miniCountsRow.holds Tryd.pinned (OpenSpec.ofChange miniCountsWrong)

/-- 'hyphenlaw11.MiniOwn': WHATEVER THE INPUT: true; the input reads as it did. -/
def miniOwnSpec : ChangeSpec := { name := "miniOwn", fn := fun _ => fun
  | [d1, d2, d3, d4] => { results := [.lit (.bool true)], args := [d1, d2, d3, d4] }
  | _ => none }
def miniOwnRow : OpenClaim := { program := "ythpnipdoehbiaaadoor", sum := "1cf42c62af69f4717a7bf3e8b9e5f6f9d1234a71929f31d4e8e605bbbd5bb288", func := "hyphen/hyphenlaw11.MiniOwn", spec := "miniOwn", inPlace := ["internal/abi.NoEscape", "internal/bytealg.MakeNoZero"], unfollowed := true, recurses := true, named := ["internal/strconv.uint64pow10", "math/bits.deBruijn32tab", "math/bits.deBruijn64tab"], apart := false, laid := [("math/bits.deBruijn32tab", laid_math_bits_deBruijn32tab), ("math/bits.deBruijn64tab", laid_math_bits_deBruijn64tab), ("internal/strconv.uint64pow10", laid_internal_strconv_uint64pow10)] }
def MiniOwnSaid : Prop := miniOwnRow.holds Tryd.pinned (OpenSpec.ofChange miniOwnSpec)

/-- ITS FALSE NEIGHBOUR: 'it returns false'. Refute it at one input. -/
def miniOwnWrong : ChangeSpec := { name := "miniOwn", fn := fun _ => fun
  | [d1, d2, d3, d4] => { results := [.lit (.bool false)], args := [d1, d2, d3, d4] }
  | _ => none }
def MiniOwnWrongFalsely : Prop := miniOwnRow.holds Tryd.pinned (OpenSpec.ofChange miniOwnWrong)

/- THE SECOND FORM. 'bulk': how many values and letters a reading holds, each counted each time it is reached (what is shared counts as often as it is met; a slice's spare places count too). A statement '..UptoSaid' is the law's where the arguments, and the package variables that the reading takes, are together of bulk at most 1048576: NARROWER than '..Said'. Prove '..Said' where nothing that the law and all that it calls make is longer than what came in: it says more and counts as full. Else prove '..UptoSaid'. A law counts once. -/
mutual
def uptoBulk {H : Type} : DataW H → Nat
  | .lit (.string bytes) => bytes.length + 1
  | .lit _ => 1
  | .nil => 1
  | .ptr d => uptoBulk d + 1
  | .slice elems spare => uptoBulkAll elems + uptoBulkAll spare + 1
  | .agg parts => uptoBulkAll parts + 1
  | .iface _ d => uptoBulk d + 1
  | .map entries => uptoBulkEntries entries + 1
  | .held _ => 1
def uptoBulkAll {H : Type} : List (DataW H) → Nat
  | [] => 0
  | d :: r => uptoBulk d + uptoBulkAll r
def uptoBulkEntries {H : Type} : List (Lit × DataW H) → Nat
  | [] => 0
  | x :: r => uptoBulkEntry x + uptoBulkEntries r
def uptoBulkEntry {H : Type} : Lit × DataW H → Nat
  | (.string bytes, d) => bytes.length + uptoBulk d + 1
  | (_, d) => uptoBulk d + 1
 end
def uptoSmall : (H : Type) → List (DataW H) → Bool := fun _ ds => decide (uptoBulkAll ds ≤ 1048576)
def OpenSpec.upto (s : _root_.Go.ChangeSpec) : _root_.Go.OpenSpec := { _root_.Go.OpenSpec.ofChange s with cond := some uptoSmall }

/-- 'hyphenlaw11.MiniAll', WHERE WHAT IT READS IS OF BULK AT MOST 1048576: true; the input reads as it did. -/
def miniAllUptoRow : OpenClaim := { program := "ythpnipdoehbiaaadoor", sum := "1cf42c62af69f4717a7bf3e8b9e5f6f9d1234a71929f31d4e8e605bbbd5bb288", func := "hyphen/hyphenlaw11.MiniAll", spec := "miniAll", inPlace := ["internal/abi.NoEscape", "internal/bytealg.MakeNoZero"], unfollowed := true, recurses := true, named := ["internal/strconv.uint64pow10", "math/bits.deBruijn32tab", "math/bits.deBruijn64tab"], apart := false, laid := [("math/bits.deBruijn32tab", laid_math_bits_deBruijn32tab), ("math/bits.deBruijn64tab", laid_math_bits_deBruijn64tab), ("internal/strconv.uint64pow10", laid_internal_strconv_uint64pow10)], narrowed := true }
def MiniAllUptoSaid : Prop := miniAllUptoRow.holds Tryd.pinned (OpenSpec.upto miniAllSpec)

/-- 'hyphenlaw11.MiniSays', WHERE WHAT IT READS IS OF BULK AT MOST 1048576: true; the input reads as it did. -/
def miniSaysUptoRow : OpenClaim := { program := "ythpnipdoehbiaaadoor", sum := "1cf42c62af69f4717a7bf3e8b9e5f6f9d1234a71929f31d4e8e605bbbd5bb288", func := "hyphen/hyphenlaw11.MiniSays", spec := "miniSays", inPlace := ["internal/abi.NoEscape", "internal/bytealg.MakeNoZero"], unfollowed := true, recurses := true, named := ["internal/strconv.uint64pow10", "math/bits.deBruijn32tab", "math/bits.deBruijn64tab"], apart := false, laid := [("math/bits.deBruijn32tab", laid_math_bits_deBruijn32tab), ("math/bits.deBruijn64tab", laid_math_bits_deBruijn64tab), ("internal/strconv.uint64pow10", laid_internal_strconv_uint64pow10)], narrowed := true }
def MiniSaysUptoSaid : Prop := miniSaysUptoRow.holds Tryd.pinned (OpenSpec.upto miniSaysSpec)

/-- 'hyphenlaw11.MiniFewest', WHERE WHAT IT READS IS OF BULK AT MOST 1048576: true; the input reads as it did. -/
def miniFewestUptoRow : OpenClaim := { program := "ythpnipdoehbiaaadoor", sum := "1cf42c62af69f4717a7bf3e8b9e5f6f9d1234a71929f31d4e8e605bbbd5bb288", func := "hyphen/hyphenlaw11.MiniFewest", spec := "miniFewest", inPlace := ["internal/abi.NoEscape", "internal/bytealg.MakeNoZero"], unfollowed := true, recurses := true, named := ["internal/strconv.uint64pow10", "math/bits.deBruijn32tab", "math/bits.deBruijn64tab"], apart := false, laid := [("math/bits.deBruijn32tab", laid_math_bits_deBruijn32tab), ("math/bits.deBruijn64tab", laid_math_bits_deBruijn64tab), ("internal/strconv.uint64pow10", laid_internal_strconv_uint64pow10)], narrowed := true }
def MiniFewestUptoSaid : Prop := miniFewestUptoRow.holds Tryd.pinned (OpenSpec.upto miniFewestSpec)

/-- 'hyphenlaw11.MiniSame', WHERE WHAT IT READS IS OF BULK AT MOST 1048576: true; the input reads as it did. -/
def miniSameUptoRow : OpenClaim := { program := "ythpnipdoehbiaaadoor", sum := "1cf42c62af69f4717a7bf3e8b9e5f6f9d1234a71929f31d4e8e605bbbd5bb288", func := "hyphen/hyphenlaw11.MiniSame", spec := "miniSame", inPlace := ["internal/abi.NoEscape", "internal/bytealg.MakeNoZero"], unfollowed := true, recurses := true, named := ["internal/strconv.uint64pow10", "math/bits.deBruijn32tab", "math/bits.deBruijn64tab"], apart := false, laid := [("math/bits.deBruijn32tab", laid_math_bits_deBruijn32tab), ("math/bits.deBruijn64tab", laid_math_bits_deBruijn64tab), ("internal/strconv.uint64pow10", laid_internal_strconv_uint64pow10)], narrowed := true }
def MiniSameUptoSaid : Prop := miniSameUptoRow.holds Tryd.pinned (OpenSpec.upto miniSameSpec)

/-- 'hyphenlaw11.MiniPicks', WHERE WHAT IT READS IS OF BULK AT MOST 1048576: true; the input reads as it did. -/
def miniPicksUptoRow : OpenClaim := { program := "ythpnipdoehbiaaadoor", sum := "1cf42c62af69f4717a7bf3e8b9e5f6f9d1234a71929f31d4e8e605bbbd5bb288", func := "hyphen/hyphenlaw11.MiniPicks", spec := "miniPicks", inPlace := ["internal/abi.NoEscape", "internal/bytealg.MakeNoZero"], unfollowed := true, recurses := true, named := ["internal/strconv.uint64pow10", "math/bits.deBruijn32tab", "math/bits.deBruijn64tab"], apart := false, laid := [("math/bits.deBruijn32tab", laid_math_bits_deBruijn32tab), ("math/bits.deBruijn64tab", laid_math_bits_deBruijn64tab), ("internal/strconv.uint64pow10", laid_internal_strconv_uint64pow10)], narrowed := true }
def MiniPicksUptoSaid : Prop := miniPicksUptoRow.holds Tryd.pinned (OpenSpec.upto miniPicksSpec)

/-- 'hyphenlaw11.MiniAgain', WHERE WHAT IT READS IS OF BULK AT MOST 1048576: true; the input reads as it did. -/
def miniAgainUptoRow : OpenClaim := { program := "ythpnipdoehbiaaadoor", sum := "1cf42c62af69f4717a7bf3e8b9e5f6f9d1234a71929f31d4e8e605bbbd5bb288", func := "hyphen/hyphenlaw11.MiniAgain", spec := "miniAgain", inPlace := ["internal/abi.NoEscape", "internal/bytealg.MakeNoZero"], unfollowed := true, recurses := true, named := ["internal/strconv.uint64pow10", "math/bits.deBruijn32tab", "math/bits.deBruijn64tab"], apart := false, laid := [("math/bits.deBruijn32tab", laid_math_bits_deBruijn32tab), ("math/bits.deBruijn64tab", laid_math_bits_deBruijn64tab), ("internal/strconv.uint64pow10", laid_internal_strconv_uint64pow10)], narrowed := true }
def MiniAgainUptoSaid : Prop := miniAgainUptoRow.holds Tryd.pinned (OpenSpec.upto miniAgainSpec)

/-- 'hyphenlaw11.MiniNames', WHERE WHAT IT READS IS OF BULK AT MOST 1048576: true; the input reads as it did. -/
def miniNamesUptoRow : OpenClaim := { program := "ythpnipdoehbiaaadoor", sum := "1cf42c62af69f4717a7bf3e8b9e5f6f9d1234a71929f31d4e8e605bbbd5bb288", func := "hyphen/hyphenlaw11.MiniNames", spec := "miniNames", inPlace := ["internal/abi.NoEscape", "internal/bytealg.MakeNoZero"], unfollowed := true, recurses := true, named := ["internal/strconv.uint64pow10", "math/bits.deBruijn32tab", "math/bits.deBruijn64tab"], apart := false, laid := [("math/bits.deBruijn32tab", laid_math_bits_deBruijn32tab), ("math/bits.deBruijn64tab", laid_math_bits_deBruijn64tab), ("internal/strconv.uint64pow10", laid_internal_strconv_uint64pow10)], narrowed := true }
def MiniNamesUptoSaid : Prop := miniNamesUptoRow.holds Tryd.pinned (OpenSpec.upto miniNamesSpec)

/-- 'hyphenlaw11.MiniOne', WHERE WHAT IT READS IS OF BULK AT MOST 1048576: true; the input reads as it did. -/
def miniOneUptoRow : OpenClaim := { program := "ythpnipdoehbiaaadoor", sum := "1cf42c62af69f4717a7bf3e8b9e5f6f9d1234a71929f31d4e8e605bbbd5bb288", func := "hyphen/hyphenlaw11.MiniOne", spec := "miniOne", inPlace := ["internal/abi.NoEscape", "internal/bytealg.MakeNoZero"], unfollowed := true, recurses := true, named := ["internal/strconv.uint64pow10", "math/bits.deBruijn32tab", "math/bits.deBruijn64tab"], apart := false, laid := [("math/bits.deBruijn32tab", laid_math_bits_deBruijn32tab), ("math/bits.deBruijn64tab", laid_math_bits_deBruijn64tab), ("internal/strconv.uint64pow10", laid_internal_strconv_uint64pow10)], narrowed := true }
def MiniOneUptoSaid : Prop := miniOneUptoRow.holds Tryd.pinned (OpenSpec.upto miniOneSpec)

/-- 'hyphenlaw11.MiniCounts', WHERE WHAT IT READS IS OF BULK AT MOST 1048576: true; the input reads as it did. -/
def miniCountsUptoRow : OpenClaim := { program := "ythpnipdoehbiaaadoor", sum := "1cf42c62af69f4717a7bf3e8b9e5f6f9d1234a71929f31d4e8e605bbbd5bb288", func := "hyphen/hyphenlaw11.MiniCounts", spec := "miniCounts", inPlace := ["internal/abi.NoEscape", "internal/bytealg.MakeNoZero"], unfollowed := true, recurses := true, named := ["internal/strconv.uint64pow10", "math/bits.deBruijn32tab", "math/bits.deBruijn64tab"], apart := false, laid := [("math/bits.deBruijn32tab", laid_math_bits_deBruijn32tab), ("math/bits.deBruijn64tab", laid_math_bits_deBruijn64tab), ("internal/strconv.uint64pow10", laid_internal_strconv_uint64pow10)], narrowed := true }
def MiniCountsUptoSaid : Prop := miniCountsUptoRow.holds Tryd.pinned (OpenSpec.upto miniCountsSpec)

/-- 'hyphenlaw11.MiniOwn', WHERE WHAT IT READS IS OF BULK AT MOST 1048576: true; the input reads as it did. -/
def miniOwnUptoRow : OpenClaim := { program := "ythpnipdoehbiaaadoor", sum := "1cf42c62af69f4717a7bf3e8b9e5f6f9d1234a71929f31d4e8e605bbbd5bb288", func := "hyphen/hyphenlaw11.MiniOwn", spec := "miniOwn", inPlace := ["internal/abi.NoEscape", "internal/bytealg.MakeNoZero"], unfollowed := true, recurses := true, named := ["internal/strconv.uint64pow10", "math/bits.deBruijn32tab", "math/bits.deBruijn64tab"], apart := false, laid := [("math/bits.deBruijn32tab", laid_math_bits_deBruijn32tab), ("math/bits.deBruijn64tab", laid_math_bits_deBruijn64tab), ("internal/strconv.uint64pow10", laid_internal_strconv_uint64pow10)], narrowed := true }
def MiniOwnUptoSaid : Prop := miniOwnUptoRow.holds Tryd.pinned (OpenSpec.upto miniOwnSpec)

end Rows
end Go.Proofs.YthpnipdoehbiaaaDoor
