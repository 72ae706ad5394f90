/-
  NARROWER THAN 'FOR EVERY INPUT', by the rows' own cells (each row's printed sentence says how): LeapTables: laid · LeapOnce: laid · LeapNone: laid · LeapMany: laid · LeapTimes: laid · LeapGoes: laid · LeapBy: laid · LeapTold: laid.
  DERIVED. THE GIVEN ROWS OF THIS SEAT. 8 by the template 'for every input the law returns true; each argument reads behind the call as it read before'; 0 by the template 'total and deterministic' (their statements: YtbfiaogmfjadeaaDoorTotals.lean).
  GIVEN WITH THE SEED: the statements are not yours to turn. If you find one false, say at which input.
  Laid BY PROGRAM, IN A SANDBOX (cutbox-rows.mjs): the forced cells as the released guide's own fill.sh prints them over the translation cd41226138dfcea5… (all of the seat's roots in one cut). By AI agents, Wed Nov 11 2026. No macro, syntax, notation, axiom, sorry.
-/
import Derived.Test.YtbfiaogmfjadeaaDoorChecked
import GoSem.Claim
import GoSem.ClaimJoined
import GoSem.ClaimMapViews
import Derived.JoinedTies
import Derived.KernelRfl
namespace Go.Proofs.YtbfiaogmfjadeaaDoor
/- THE CELL 'sum', in the pinned program and in every row, IS THE sha256 OF THE DUMP (.gsa) THAT YtbfiaogmfjadeaaDoorProg.lean LOADS. Nothing in Lean hashes anything: it is a label: what it is worth is what the hold of that sum in a sandbox is worth. -/
noncomputable def Tryd.pinned : Pinned := { name := "ytbfiaogmfjadeaadoor", sum := "cd41226138dfcea5dab9f83bb4e38914795cfc52b12f6c3577fbea45fcb5ff8e", checked := Tryd.checked }
namespace Rows
def none {H : Type} : Left H := { results := [], args := [] }

/- WHAT THE LISTED PACKAGE-LEVEL VARIABLES READ AS WHEN THE CALL BEGINS. Each datum BY PROGRAM (the guide's laid-datum.mjs) off the statement by which the dump's own 'gosem.cut.vars' lays the variable. In a bare row this is a premise. The card (YtbfiaogmfjadeaaDoorCards.lean) ties it to the program's text. -/
def laid_math_bits_deBruijn32tab {H : Type} : DataW H := .agg [.lit (.int .u8 0), .lit (.int .u8 1), .lit (.int .u8 28), .lit (.int .u8 2), .lit (.int .u8 29), .lit (.int .u8 14), .lit (.int .u8 24), .lit (.int .u8 3), .lit (.int .u8 30), .lit (.int .u8 22), .lit (.int .u8 20), .lit (.int .u8 15), .lit (.int .u8 25), .lit (.int .u8 17), .lit (.int .u8 4), .lit (.int .u8 8), .lit (.int .u8 31), .lit (.int .u8 27), .lit (.int .u8 13), .lit (.int .u8 23), .lit (.int .u8 21), .lit (.int .u8 19), .lit (.int .u8 16), .lit (.int .u8 7), .lit (.int .u8 26), .lit (.int .u8 12), .lit (.int .u8 18), .lit (.int .u8 6), .lit (.int .u8 11), .lit (.int .u8 5), .lit (.int .u8 10), .lit (.int .u8 9)]
def laid_math_bits_deBruijn64tab {H : Type} : DataW H := .agg [.lit (.int .u8 0), .lit (.int .u8 1), .lit (.int .u8 56), .lit (.int .u8 2), .lit (.int .u8 57), .lit (.int .u8 49), .lit (.int .u8 28), .lit (.int .u8 3), .lit (.int .u8 61), .lit (.int .u8 58), .lit (.int .u8 42), .lit (.int .u8 50), .lit (.int .u8 38), .lit (.int .u8 29), .lit (.int .u8 17), .lit (.int .u8 4), .lit (.int .u8 62), .lit (.int .u8 47), .lit (.int .u8 59), .lit (.int .u8 36), .lit (.int .u8 45), .lit (.int .u8 43), .lit (.int .u8 51), .lit (.int .u8 22), .lit (.int .u8 53), .lit (.int .u8 39), .lit (.int .u8 33), .lit (.int .u8 30), .lit (.int .u8 24), .lit (.int .u8 18), .lit (.int .u8 12), .lit (.int .u8 5), .lit (.int .u8 63), .lit (.int .u8 55), .lit (.int .u8 48), .lit (.int .u8 27), .lit (.int .u8 60), .lit (.int .u8 41), .lit (.int .u8 37), .lit (.int .u8 16), .lit (.int .u8 46), .lit (.int .u8 35), .lit (.int .u8 44), .lit (.int .u8 21), .lit (.int .u8 52), .lit (.int .u8 32), .lit (.int .u8 23), .lit (.int .u8 11), .lit (.int .u8 54), .lit (.int .u8 26), .lit (.int .u8 40), .lit (.int .u8 15), .lit (.int .u8 34), .lit (.int .u8 20), .lit (.int .u8 31), .lit (.int .u8 10), .lit (.int .u8 25), .lit (.int .u8 14), .lit (.int .u8 19), .lit (.int .u8 9), .lit (.int .u8 13), .lit (.int .u8 8), .lit (.int .u8 7), .lit (.int .u8 6)]
def laid_internal_strconv_uint64pow10 {H : Type} : DataW H := .agg [.lit (.int .u64 1), .lit (.int .u64 10), .lit (.int .u64 100), .lit (.int .u64 1000), .lit (.int .u64 10000), .lit (.int .u64 100000), .lit (.int .u64 1000000), .lit (.int .u64 10000000), .lit (.int .u64 100000000), .lit (.int .u64 1000000000), .lit (.int .u64 10000000000), .lit (.int .u64 100000000000), .lit (.int .u64 1000000000000), .lit (.int .u64 10000000000000), .lit (.int .u64 100000000000000), .lit (.int .u64 1000000000000000), .lit (.int .u64 10000000000000000), .lit (.int .u64 100000000000000000), .lit (.int .u64 1000000000000000000), .lit (.int .u64 10000000000000000000)]

/-- 'horologelaw16.LeapTables': WHATEVER THE INPUT: true; the input reads as it did. -/
def leapTablesSpec : ChangeSpec := { name := "leapTables", fn := fun _ => fun
  | [d1, d2] => { results := [.lit (.bool true)], args := [d1, d2] }
  | _ => none }
def leapTablesRow : OpenClaim := { program := "ytbfiaogmfjadeaadoor", sum := "cd41226138dfcea5dab9f83bb4e38914795cfc52b12f6c3577fbea45fcb5ff8e", func := "horologe/horologelaw16.LeapTables", spec := "leapTables", unfollowed := true, recurses := true, named := ["internal/strconv.uint64pow10", "math/bits.deBruijn32tab", "math/bits.deBruijn64tab"], apart := false, laid := [("math/bits.deBruijn32tab", laid_math_bits_deBruijn32tab), ("math/bits.deBruijn64tab", laid_math_bits_deBruijn64tab), ("internal/strconv.uint64pow10", laid_internal_strconv_uint64pow10)] }
def LeapTablesSaid : Prop := leapTablesRow.holds Tryd.pinned (OpenSpec.ofChange leapTablesSpec)

/-- ITS FALSE NEIGHBOUR: 'it returns false'. Refute it at one input. -/
def leapTablesWrong : ChangeSpec := { name := "leapTables", fn := fun _ => fun
  | [d1, d2] => { results := [.lit (.bool false)], args := [d1, d2] }
  | _ => none }
def LeapTablesWrongFalsely : Prop := leapTablesRow.holds Tryd.pinned (OpenSpec.ofChange leapTablesWrong)

/-- 'horologelaw16.LeapOnce': WHATEVER THE INPUT: true; the input reads as it did. -/
def leapOnceSpec : ChangeSpec := { name := "leapOnce", fn := fun _ => fun
  | [d1, d2] => { results := [.lit (.bool true)], args := [d1, d2] }
  | _ => none }
def leapOnceRow : OpenClaim := { program := "ytbfiaogmfjadeaadoor", sum := "cd41226138dfcea5dab9f83bb4e38914795cfc52b12f6c3577fbea45fcb5ff8e", func := "horologe/horologelaw16.LeapOnce", spec := "leapOnce", unfollowed := true, recurses := true, named := ["internal/strconv.uint64pow10", "math/bits.deBruijn32tab", "math/bits.deBruijn64tab"], apart := false, laid := [("math/bits.deBruijn32tab", laid_math_bits_deBruijn32tab), ("math/bits.deBruijn64tab", laid_math_bits_deBruijn64tab), ("internal/strconv.uint64pow10", laid_internal_strconv_uint64pow10)] }
def LeapOnceSaid : Prop := leapOnceRow.holds Tryd.pinned (OpenSpec.ofChange leapOnceSpec)

/-- ITS FALSE NEIGHBOUR: 'it returns false'. Refute it at one input. -/
def leapOnceWrong : ChangeSpec := { name := "leapOnce", fn := fun _ => fun
  | [d1, d2] => { results := [.lit (.bool false)], args := [d1, d2] }
  | _ => none }
def LeapOnceWrongFalsely : Prop := leapOnceRow.holds Tryd.pinned (OpenSpec.ofChange leapOnceWrong)

/-- 'horologelaw16.LeapNone': WHATEVER THE INPUT: true; the input reads as it did. -/
def leapNoneSpec : ChangeSpec := { name := "leapNone", fn := fun _ => fun
  | [d1, d2] => { results := [.lit (.bool true)], args := [d1, d2] }
  | _ => none }
def leapNoneRow : OpenClaim := { program := "ytbfiaogmfjadeaadoor", sum := "cd41226138dfcea5dab9f83bb4e38914795cfc52b12f6c3577fbea45fcb5ff8e", func := "horologe/horologelaw16.LeapNone", spec := "leapNone", unfollowed := true, recurses := true, named := ["internal/strconv.uint64pow10", "math/bits.deBruijn32tab", "math/bits.deBruijn64tab"], apart := false, laid := [("math/bits.deBruijn32tab", laid_math_bits_deBruijn32tab), ("math/bits.deBruijn64tab", laid_math_bits_deBruijn64tab), ("internal/strconv.uint64pow10", laid_internal_strconv_uint64pow10)] }
def LeapNoneSaid : Prop := leapNoneRow.holds Tryd.pinned (OpenSpec.ofChange leapNoneSpec)

/-- ITS FALSE NEIGHBOUR: 'it returns false'. Refute it at one input. -/
def leapNoneWrong : ChangeSpec := { name := "leapNone", fn := fun _ => fun
  | [d1, d2] => { results := [.lit (.bool false)], args := [d1, d2] }
  | _ => none }
def LeapNoneWrongFalsely : Prop := leapNoneRow.holds Tryd.pinned (OpenSpec.ofChange leapNoneWrong)

/-- 'horologelaw16.LeapMany': WHATEVER THE INPUT: true; the input reads as it did. -/
def leapManySpec : ChangeSpec := { name := "leapMany", fn := fun _ => fun
  | [d1, d2] => { results := [.lit (.bool true)], args := [d1, d2] }
  | _ => none }
def leapManyRow : OpenClaim := { program := "ytbfiaogmfjadeaadoor", sum := "cd41226138dfcea5dab9f83bb4e38914795cfc52b12f6c3577fbea45fcb5ff8e", func := "horologe/horologelaw16.LeapMany", spec := "leapMany", unfollowed := true, recurses := true, named := ["internal/strconv.uint64pow10", "math/bits.deBruijn32tab", "math/bits.deBruijn64tab"], apart := false, laid := [("math/bits.deBruijn32tab", laid_math_bits_deBruijn32tab), ("math/bits.deBruijn64tab", laid_math_bits_deBruijn64tab), ("internal/strconv.uint64pow10", laid_internal_strconv_uint64pow10)] }
def LeapManySaid : Prop := leapManyRow.holds Tryd.pinned (OpenSpec.ofChange leapManySpec)

/-- ITS FALSE NEIGHBOUR: 'it returns false'. Refute it at one input. -/
def leapManyWrong : ChangeSpec := { name := "leapMany", fn := fun _ => fun
  | [d1, d2] => { results := [.lit (.bool false)], args := [d1, d2] }
  | _ => none }
def LeapManyWrongFalsely : Prop := leapManyRow.holds Tryd.pinned (OpenSpec.ofChange leapManyWrong)

/-- 'horologelaw16.LeapTimes': WHATEVER THE INPUT: true; the input reads as it did. -/
def leapTimesSpec : ChangeSpec := { name := "leapTimes", fn := fun _ => fun
  | [d1, d2] => { results := [.lit (.bool true)], args := [d1, d2] }
  | _ => none }
def leapTimesRow : OpenClaim := { program := "ytbfiaogmfjadeaadoor", sum := "cd41226138dfcea5dab9f83bb4e38914795cfc52b12f6c3577fbea45fcb5ff8e", func := "horologe/horologelaw16.LeapTimes", spec := "leapTimes", unfollowed := true, recurses := true, named := ["internal/strconv.uint64pow10", "math/bits.deBruijn32tab", "math/bits.deBruijn64tab"], apart := false, laid := [("math/bits.deBruijn32tab", laid_math_bits_deBruijn32tab), ("math/bits.deBruijn64tab", laid_math_bits_deBruijn64tab), ("internal/strconv.uint64pow10", laid_internal_strconv_uint64pow10)] }
def LeapTimesSaid : Prop := leapTimesRow.holds Tryd.pinned (OpenSpec.ofChange leapTimesSpec)

/-- ITS FALSE NEIGHBOUR: 'it returns false'. Refute it at one input. -/
def leapTimesWrong : ChangeSpec := { name := "leapTimes", fn := fun _ => fun
  | [d1, d2] => { results := [.lit (.bool false)], args := [d1, d2] }
  | _ => none }
def LeapTimesWrongFalsely : Prop := leapTimesRow.holds Tryd.pinned (OpenSpec.ofChange leapTimesWrong)

/-- 'horologelaw16.LeapGoes': WHATEVER THE INPUT: true; the input reads as it did. -/
def leapGoesSpec : ChangeSpec := { name := "leapGoes", fn := fun _ => fun
  | [d1, d2] => { results := [.lit (.bool true)], args := [d1, d2] }
  | _ => none }
def leapGoesRow : OpenClaim := { program := "ytbfiaogmfjadeaadoor", sum := "cd41226138dfcea5dab9f83bb4e38914795cfc52b12f6c3577fbea45fcb5ff8e", func := "horologe/horologelaw16.LeapGoes", spec := "leapGoes", unfollowed := true, recurses := true, named := ["internal/strconv.uint64pow10", "math/bits.deBruijn32tab", "math/bits.deBruijn64tab"], apart := false, laid := [("math/bits.deBruijn32tab", laid_math_bits_deBruijn32tab), ("math/bits.deBruijn64tab", laid_math_bits_deBruijn64tab), ("internal/strconv.uint64pow10", laid_internal_strconv_uint64pow10)] }
def LeapGoesSaid : Prop := leapGoesRow.holds Tryd.pinned (OpenSpec.ofChange leapGoesSpec)

/-- ITS FALSE NEIGHBOUR: 'it returns false'. Refute it at one input. -/
def leapGoesWrong : ChangeSpec := { name := "leapGoes", fn := fun _ => fun
  | [d1, d2] => { results := [.lit (.bool false)], args := [d1, d2] }
  | _ => none }
def LeapGoesWrongFalsely : Prop := leapGoesRow.holds Tryd.pinned (OpenSpec.ofChange leapGoesWrong)

/-- 'horologelaw16.LeapBy': WHATEVER THE INPUT: true; the input reads as it did. -/
def leapBySpec : ChangeSpec := { name := "leapBy", fn := fun _ => fun
  | [d1, d2, d3] => { results := [.lit (.bool true)], args := [d1, d2, d3] }
  | _ => none }
def leapByRow : OpenClaim := { program := "ytbfiaogmfjadeaadoor", sum := "cd41226138dfcea5dab9f83bb4e38914795cfc52b12f6c3577fbea45fcb5ff8e", func := "horologe/horologelaw16.LeapBy", spec := "leapBy", unfollowed := true, recurses := true, named := ["internal/strconv.uint64pow10", "math/bits.deBruijn32tab", "math/bits.deBruijn64tab"], apart := false, laid := [("math/bits.deBruijn32tab", laid_math_bits_deBruijn32tab), ("math/bits.deBruijn64tab", laid_math_bits_deBruijn64tab), ("internal/strconv.uint64pow10", laid_internal_strconv_uint64pow10)] }
def LeapBySaid : Prop := leapByRow.holds Tryd.pinned (OpenSpec.ofChange leapBySpec)

/-- ITS FALSE NEIGHBOUR: 'it returns false'. Refute it at one input. -/
def leapByWrong : ChangeSpec := { name := "leapBy", fn := fun _ => fun
  | [d1, d2, d3] => { results := [.lit (.bool false)], args := [d1, d2, d3] }
  | _ => none }
def LeapByWrongFalsely : Prop := leapByRow.holds Tryd.pinned (OpenSpec.ofChange leapByWrong)

/-- 'horologelaw16.LeapTold': WHATEVER THE INPUT: true; the input reads as it did. -/
def leapToldSpec : ChangeSpec := { name := "leapTold", fn := fun _ => fun
  | [d1, d2, d3] => { results := [.lit (.bool true)], args := [d1, d2, d3] }
  | _ => none }
def leapToldRow : OpenClaim := { program := "ytbfiaogmfjadeaadoor", sum := "cd41226138dfcea5dab9f83bb4e38914795cfc52b12f6c3577fbea45fcb5ff8e", func := "horologe/horologelaw16.LeapTold", spec := "leapTold", unfollowed := true, recurses := true, named := ["internal/strconv.uint64pow10", "math/bits.deBruijn32tab", "math/bits.deBruijn64tab"], apart := false, laid := [("math/bits.deBruijn32tab", laid_math_bits_deBruijn32tab), ("math/bits.deBruijn64tab", laid_math_bits_deBruijn64tab), ("internal/strconv.uint64pow10", laid_internal_strconv_uint64pow10)] }
def LeapToldSaid : Prop := leapToldRow.holds Tryd.pinned (OpenSpec.ofChange leapToldSpec)

/-- ITS FALSE NEIGHBOUR: 'it returns false'. Refute it at one input. -/
def leapToldWrong : ChangeSpec := { name := "leapTold", fn := fun _ => fun
  | [d1, d2, d3] => { results := [.lit (.bool false)], args := [d1, d2, d3] }
  | _ => none }
def LeapToldWrongFalsely : Prop := leapToldRow.holds Tryd.pinned (OpenSpec.ofChange leapToldWrong)

/- THE SECOND FORM. 'bulk': how many values and letters a reading holds, each counted each time it is reached (what is shared counts as often as it is met; a slice's spare places count too). A statement '..UptoSaid' is the law's where the arguments, and the package variables that the reading takes, are together of bulk at most 1048576: NARROWER than '..Said'. Prove '..Said' where nothing that the law and all that it calls make is longer than what came in: it says more and counts as full. Else prove '..UptoSaid'. A law counts once. -/
mutual
def uptoBulk {H : Type} : DataW H → Nat
  | .lit (.string bytes) => bytes.length + 1
  | .lit _ => 1
  | .nil => 1
  | .ptr d => uptoBulk d + 1
  | .slice elems spare => uptoBulkAll elems + uptoBulkAll spare + 1
  | .agg parts => uptoBulkAll parts + 1
  | .iface _ d => uptoBulk d + 1
  | .map entries => uptoBulkEntries entries + 1
  | .held _ => 1
def uptoBulkAll {H : Type} : List (DataW H) → Nat
  | [] => 0
  | d :: r => uptoBulk d + uptoBulkAll r
def uptoBulkEntries {H : Type} : List (Lit × DataW H) → Nat
  | [] => 0
  | x :: r => uptoBulkEntry x + uptoBulkEntries r
def uptoBulkEntry {H : Type} : Lit × DataW H → Nat
  | (.string bytes, d) => bytes.length + uptoBulk d + 1
  | (_, d) => uptoBulk d + 1
 end
def uptoSmall : (H : Type) → List (DataW H) → Bool := fun _ ds => decide (uptoBulkAll ds ≤ 1048576)
def OpenSpec.upto (s : _root_.Go.ChangeSpec) : _root_.Go.OpenSpec := { _root_.Go.OpenSpec.ofChange s with cond := some uptoSmall }

/-- 'horologelaw16.LeapTables', WHERE WHAT IT READS IS OF BULK AT MOST 1048576: true; the input reads as it did. -/
def leapTablesUptoRow : OpenClaim := { program := "ytbfiaogmfjadeaadoor", sum := "cd41226138dfcea5dab9f83bb4e38914795cfc52b12f6c3577fbea45fcb5ff8e", func := "horologe/horologelaw16.LeapTables", spec := "leapTables", unfollowed := true, recurses := true, named := ["internal/strconv.uint64pow10", "math/bits.deBruijn32tab", "math/bits.deBruijn64tab"], apart := false, laid := [("math/bits.deBruijn32tab", laid_math_bits_deBruijn32tab), ("math/bits.deBruijn64tab", laid_math_bits_deBruijn64tab), ("internal/strconv.uint64pow10", laid_internal_strconv_uint64pow10)], narrowed := true }
def LeapTablesUptoSaid : Prop := leapTablesUptoRow.holds Tryd.pinned (OpenSpec.upto leapTablesSpec)

/-- 'horologelaw16.LeapOnce', WHERE WHAT IT READS IS OF BULK AT MOST 1048576: true; the input reads as it did. -/
def leapOnceUptoRow : OpenClaim := { program := "ytbfiaogmfjadeaadoor", sum := "cd41226138dfcea5dab9f83bb4e38914795cfc52b12f6c3577fbea45fcb5ff8e", func := "horologe/horologelaw16.LeapOnce", spec := "leapOnce", unfollowed := true, recurses := true, named := ["internal/strconv.uint64pow10", "math/bits.deBruijn32tab", "math/bits.deBruijn64tab"], apart := false, laid := [("math/bits.deBruijn32tab", laid_math_bits_deBruijn32tab), ("math/bits.deBruijn64tab", laid_math_bits_deBruijn64tab), ("internal/strconv.uint64pow10", laid_internal_strconv_uint64pow10)], narrowed := true }
def LeapOnceUptoSaid : Prop := leapOnceUptoRow.holds Tryd.pinned (OpenSpec.upto leapOnceSpec)

/-- 'horologelaw16.LeapNone', WHERE WHAT IT READS IS OF BULK AT MOST 1048576: true; the input reads as it did. -/
def leapNoneUptoRow : OpenClaim := { program := "ytbfiaogmfjadeaadoor", sum := "cd41226138dfcea5dab9f83bb4e38914795cfc52b12f6c3577fbea45fcb5ff8e", func := "horologe/horologelaw16.LeapNone", spec := "leapNone", unfollowed := true, recurses := true, named := ["internal/strconv.uint64pow10", "math/bits.deBruijn32tab", "math/bits.deBruijn64tab"], apart := false, laid := [("math/bits.deBruijn32tab", laid_math_bits_deBruijn32tab), ("math/bits.deBruijn64tab", laid_math_bits_deBruijn64tab), ("internal/strconv.uint64pow10", laid_internal_strconv_uint64pow10)], narrowed := true }
def LeapNoneUptoSaid : Prop := leapNoneUptoRow.holds Tryd.pinned (OpenSpec.upto leapNoneSpec)

/-- 'horologelaw16.LeapMany', WHERE WHAT IT READS IS OF BULK AT MOST 1048576: true; the input reads as it did. -/
def leapManyUptoRow : OpenClaim := { program := "ytbfiaogmfjadeaadoor", sum := "cd41226138dfcea5dab9f83bb4e38914795cfc52b12f6c3577fbea45fcb5ff8e", func := "horologe/horologelaw16.LeapMany", spec := "leapMany", unfollowed := true, recurses := true, named := ["internal/strconv.uint64pow10", "math/bits.deBruijn32tab", "math/bits.deBruijn64tab"], apart := false, laid := [("math/bits.deBruijn32tab", laid_math_bits_deBruijn32tab), ("math/bits.deBruijn64tab", laid_math_bits_deBruijn64tab), ("internal/strconv.uint64pow10", laid_internal_strconv_uint64pow10)], narrowed := true }
def LeapManyUptoSaid : Prop := leapManyUptoRow.holds Tryd.pinned (OpenSpec.upto leapManySpec)

/-- 'horologelaw16.LeapTimes', WHERE WHAT IT READS IS OF BULK AT MOST 1048576: true; the input reads as it did. -/
def leapTimesUptoRow : OpenClaim := { program := "ytbfiaogmfjadeaadoor", sum := "cd41226138dfcea5dab9f83bb4e38914795cfc52b12f6c3577fbea45fcb5ff8e", func := "horologe/horologelaw16.LeapTimes", spec := "leapTimes", unfollowed := true, recurses := true, named := ["internal/strconv.uint64pow10", "math/bits.deBruijn32tab", "math/bits.deBruijn64tab"], apart := false, laid := [("math/bits.deBruijn32tab", laid_math_bits_deBruijn32tab), ("math/bits.deBruijn64tab", laid_math_bits_deBruijn64tab), ("internal/strconv.uint64pow10", laid_internal_strconv_uint64pow10)], narrowed := true }
def LeapTimesUptoSaid : Prop := leapTimesUptoRow.holds Tryd.pinned (OpenSpec.upto leapTimesSpec)

/-- 'horologelaw16.LeapGoes', WHERE WHAT IT READS IS OF BULK AT MOST 1048576: true; the input reads as it did. -/
def leapGoesUptoRow : OpenClaim := { program := "ytbfiaogmfjadeaadoor", sum := "cd41226138dfcea5dab9f83bb4e38914795cfc52b12f6c3577fbea45fcb5ff8e", func := "horologe/horologelaw16.LeapGoes", spec := "leapGoes", unfollowed := true, recurses := true, named := ["internal/strconv.uint64pow10", "math/bits.deBruijn32tab", "math/bits.deBruijn64tab"], apart := false, laid := [("math/bits.deBruijn32tab", laid_math_bits_deBruijn32tab), ("math/bits.deBruijn64tab", laid_math_bits_deBruijn64tab), ("internal/strconv.uint64pow10", laid_internal_strconv_uint64pow10)], narrowed := true }
def LeapGoesUptoSaid : Prop := leapGoesUptoRow.holds Tryd.pinned (OpenSpec.upto leapGoesSpec)

/-- 'horologelaw16.LeapBy', WHERE WHAT IT READS IS OF BULK AT MOST 1048576: true; the input reads as it did. -/
def leapByUptoRow : OpenClaim := { program := "ytbfiaogmfjadeaadoor", sum := "cd41226138dfcea5dab9f83bb4e38914795cfc52b12f6c3577fbea45fcb5ff8e", func := "horologe/horologelaw16.LeapBy", spec := "leapBy", unfollowed := true, recurses := true, named := ["internal/strconv.uint64pow10", "math/bits.deBruijn32tab", "math/bits.deBruijn64tab"], apart := false, laid := [("math/bits.deBruijn32tab", laid_math_bits_deBruijn32tab), ("math/bits.deBruijn64tab", laid_math_bits_deBruijn64tab), ("internal/strconv.uint64pow10", laid_internal_strconv_uint64pow10)], narrowed := true }
def LeapByUptoSaid : Prop := leapByUptoRow.holds Tryd.pinned (OpenSpec.upto leapBySpec)

/-- 'horologelaw16.LeapTold', WHERE WHAT IT READS IS OF BULK AT MOST 1048576: true; the input reads as it did. -/
def leapToldUptoRow : OpenClaim := { program := "ytbfiaogmfjadeaadoor", sum := "cd41226138dfcea5dab9f83bb4e38914795cfc52b12f6c3577fbea45fcb5ff8e", func := "horologe/horologelaw16.LeapTold", spec := "leapTold", unfollowed := true, recurses := true, named := ["internal/strconv.uint64pow10", "math/bits.deBruijn32tab", "math/bits.deBruijn64tab"], apart := false, laid := [("math/bits.deBruijn32tab", laid_math_bits_deBruijn32tab), ("math/bits.deBruijn64tab", laid_math_bits_deBruijn64tab), ("internal/strconv.uint64pow10", laid_internal_strconv_uint64pow10)], narrowed := true }
def LeapToldUptoSaid : Prop := leapToldUptoRow.holds Tryd.pinned (OpenSpec.upto leapToldSpec)

end Rows
end Go.Proofs.YtbfiaogmfjadeaaDoor
