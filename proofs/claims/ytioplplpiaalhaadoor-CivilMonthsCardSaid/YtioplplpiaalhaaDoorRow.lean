/- Layer 15: what the rows of its laws share. Condition: the package variables that the rows list start as the text lays them. -/
import Derived.Test.YtioplplpiaalhaaDoorCvC
import Derived.Test.YtioplplpiaalhaaDoorRows
import Derived.Test.YtioplplpiaalhaaDoorCards
import Derived.Test.YtioplplpiaalhaaDoorTie
import Derived.LaidLaws
import Derived.Stop.LaidErr
import Derived.JoinedOf
import Derived.ChangeSame
import Derived.Lib.LaidTab
import Derived.SevenTiedAt
set_option maxRecDepth 100000
set_option linter.unusedSimpArgs false
set_option linter.unusedVariables false
namespace Go.Proofs.YtioplplpiaalhaaDoor
open Go.Rx Go.ChangeShapes Go.WideShapes Go.ChangeAt Go.RowKit

theorem own : ownKnob Tryd.prog.godebug = none := by kernel_rfl
theorem laidOut : laidOutB Tryd.prog = true := by kernel_rfl
def laidL : List (String × DataW Unit) := [("math/bits.deBruijn32tab", Rows.laid_math_bits_deBruijn32tab), ("math/bits.deBruijn64tab", Rows.laid_math_bits_deBruijn64tab), ("internal/strconv.uint64pow10", Rows.laid_internal_strconv_uint64pow10)]
def laidX : World → Array Value → Prop := fun w _ => laidMet Tryd.prog laidL w
/-- The settled world, the three tables laid as the program's text lays them. -/
noncomputable def laidWorld (os : Os) : World :=
  let w0 := World.holding Tryd.prog os ⟨#[], #[], []⟩
  { w0 with heap := ((w0.heap.modify 0 fun
      | .cells _ t frozen => .cells #[.int .u64 1, .int .u64 10, .int .u64 100, .int .u64 1000, .int .u64 10000, .int .u64 100000, .int .u64 1000000, .int .u64 10000000, .int .u64 100000000, .int .u64 1000000000, .int .u64 10000000000, .int .u64 100000000000, .int .u64 1000000000000, .int .u64 10000000000000, .int .u64 100000000000000, .int .u64 1000000000000000, .int .u64 10000000000000000, .int .u64 100000000000000000, .int .u64 1000000000000000000, .int .u64 10000000000000000000] t frozen
      | o => o).modify 1 fun
      | .cells _ t frozen => .cells #[.int .u8 0, .int .u8 1, .int .u8 28, .int .u8 2, .int .u8 29, .int .u8 14, .int .u8 24, .int .u8 3, .int .u8 30, .int .u8 22, .int .u8 20, .int .u8 15, .int .u8 25, .int .u8 17, .int .u8 4, .int .u8 8, .int .u8 31, .int .u8 27, .int .u8 13, .int .u8 23, .int .u8 21, .int .u8 19, .int .u8 16, .int .u8 7, .int .u8 26, .int .u8 12, .int .u8 18, .int .u8 6, .int .u8 11, .int .u8 5, .int .u8 10, .int .u8 9] t frozen
      | o => o).modify 2 fun
      | .cells _ t frozen => .cells #[.int .u8 0, .int .u8 1, .int .u8 56, .int .u8 2, .int .u8 57, .int .u8 49, .int .u8 28, .int .u8 3, .int .u8 61, .int .u8 58, .int .u8 42, .int .u8 50, .int .u8 38, .int .u8 29, .int .u8 17, .int .u8 4, .int .u8 62, .int .u8 47, .int .u8 59, .int .u8 36, .int .u8 45, .int .u8 43, .int .u8 51, .int .u8 22, .int .u8 53, .int .u8 39, .int .u8 33, .int .u8 30, .int .u8 24, .int .u8 18, .int .u8 12, .int .u8 5, .int .u8 63, .int .u8 55, .int .u8 48, .int .u8 27, .int .u8 60, .int .u8 41, .int .u8 37, .int .u8 16, .int .u8 46, .int .u8 35, .int .u8 44, .int .u8 21, .int .u8 52, .int .u8 32, .int .u8 23, .int .u8 11, .int .u8 54, .int .u8 26, .int .u8 40, .int .u8 15, .int .u8 34, .int .u8 20, .int .u8 31, .int .u8 10, .int .u8 25, .int .u8 14, .int .u8 19, .int .u8 9, .int .u8 13, .int .u8 8, .int .u8 7, .int .u8 6] t frozen
      | o => o }
theorem laidWorld_met (os : Os) (args : Array Value) : laidMet Tryd.prog laidL ((laidWorld os).forCall (fun _ _ => 0) ⟨#[], args, []⟩).memory :=
  laidMet_of_run' 8 (by kernel_rfl) (by kernel_rfl)
theorem laid_glob (W : World) (args : Array Value) (h : laidX W args) : Glob.N ≤ W.heap.size ∧ Glob.G fun i => W.heap[i]? := by
  have h1 : laidMet Tryd.prog laidL W := h
  have h3 : Lib.TabIs Tryd.prog W "internal/strconv.uint64pow10" .u64 Lib.pow10Tab :=
    Lib.tabIs_of_head (g := 0) (t := 68) (e := 62) (n := 20) (by kernel_rfl) (by kernel_rfl) (by kernel_rfl) (by kernel_rfl) (by kernel_rfl) (by kernel_rfl) (rest := []) (show laidMet Tryd.prog (("internal/strconv.uint64pow10", Lib.tabData .u64 Lib.pow10Tab) :: []) W from laidMet.tail (laidMet.tail h1))
  have h2 : ∃ cs, W.var? Tryd.prog "math/bits.deBruijn64tab" = some cs := by
    obtain ⟨ps, ⟨g', t', cs, fuel, p, q, hg', ht', hvar, _⟩, _⟩ := (show laidMet Tryd.prog (("math/bits.deBruijn64tab", Rows.laid_math_bits_deBruijn64tab) :: [("internal/strconv.uint64pow10", Rows.laid_internal_strconv_uint64pow10)]) W from laidMet.tail h1)
    exact ⟨cs, hvar⟩
  constructor
  · obtain ⟨cs, hc⟩ := h2
    unfold World.var? at hc
    rw [show Tryd.prog.globalNamed "math/bits.deBruijn64tab" = some 2 by kernel_rfl] at hc
    simp only [Option.bind_some] at hc
    split at hc
    · rename_i c _ _ hh
      have := (Array.getElem?_eq_some_iff.1 hh).1
      show 3 ≤ W.heap.size
      omega
    · cases hc
  · unfold Lib.TabIs World.var? at h3
    rw [show Tryd.prog.globalNamed "internal/strconv.uint64pow10" = some 0 by kernel_rfl] at h3
    exact h3
theorem no_segs {pl : List (Bool × List CK)} {vs : List Value} (h : countSl pl = 0) : ∀ s ∈ segsP pl vs, 0 < s.R → Glob.N ≤ s.r := by
  intro s hs
  have h1 := segsP_len pl vs
  have h2 := List.length_pos_of_mem hs
  omega
theorem wf_in {n : Int} (h : wfI .i64 n = true) : inI n = true := h
theorem needOk {c : Bool} {t : Rx.Tree Res} {r : Res} (h : c = true) (g : t.den = some r) : (Rx.Tree.need c t).den = some r := by
  rw [den_need]; exact ⟨h, g⟩
end Go.Proofs.YtioplplpiaalhaaDoor
