/- Layer 16: what the rows of its laws share. Condition: the package variables that the rows list start as the text lays them. -/
import Derived.Test.YtbfiaogmfjadeaaDoorLpD
import Derived.Test.YtbfiaogmfjadeaaDoorRows
import Derived.Test.YtbfiaogmfjadeaaDoorCards
import Derived.Test.YtbfiaogmfjadeaaDoorTie
import Derived.LaidLaws
import Derived.Stop.LaidErr
import Derived.JoinedOf
import Derived.ChangeSame
import Derived.Lib.LaidTab
import Derived.SevenTiedAt
set_option maxRecDepth 100000
set_option linter.unusedSimpArgs false
set_option linter.unusedVariables false
namespace Go.Proofs.YtbfiaogmfjadeaaDoor
open Go.Rx Go.ChangeShapes Go.WideShapes Go.ChangeAt Go.RowKit

theorem own : ownKnob Tryd.prog.godebug = none := by kernel_rfl
theorem laidOut : laidOutB Tryd.prog = true := by kernel_rfl
def laidL : List (String × DataW Unit) := [("math/bits.deBruijn32tab", Rows.laid_math_bits_deBruijn32tab), ("math/bits.deBruijn64tab", Rows.laid_math_bits_deBruijn64tab), ("internal/strconv.uint64pow10", Rows.laid_internal_strconv_uint64pow10)]
def laidX : World → Array Value → Prop := fun w _ => laidMet Tryd.prog laidL w
/-- The settled world, the three tables laid as the program's text lays them. -/
noncomputable def laidWorld (os : Os) : World :=
  let w0 := World.holding Tryd.prog os ⟨#[], #[], []⟩
  { w0 with heap := ((w0.heap.modify 0 fun
      | .cells _ t frozen => .cells #[.int .u64 1, .int .u64 10, .int .u64 100, .int .u64 1000, .int .u64 10000, .int .u64 100000, .int .u64 1000000, .int .u64 10000000, .int .u64 100000000, .int .u64 1000000000, .int .u64 10000000000, .int .u64 100000000000, .int .u64 1000000000000, .int .u64 10000000000000, .int .u64 100000000000000, .int .u64 1000000000000000, .int .u64 10000000000000000, .int .u64 100000000000000000, .int .u64 1000000000000000000, .int .u64 10000000000000000000] t frozen
      | o => o).modify 1 fun
      | .cells _ t frozen => .cells #[.int .u8 0, .int .u8 1, .int .u8 28, .int .u8 2, .int .u8 29, .int .u8 14, .int .u8 24, .int .u8 3, .int .u8 30, .int .u8 22, .int .u8 20, .int .u8 15, .int .u8 25, .int .u8 17, .int .u8 4, .int .u8 8, .int .u8 31, .int .u8 27, .int .u8 13, .int .u8 23, .int .u8 21, .int .u8 19, .int .u8 16, .int .u8 7, .int .u8 26, .int .u8 12, .int .u8 18, .int .u8 6, .int .u8 11, .int .u8 5, .int .u8 10, .int .u8 9] t frozen
      | o => o).modify 2 fun
      | .cells _ t frozen => .cells #[.int .u8 0, .int .u8 1, .int .u8 56, .int .u8 2, .int .u8 57, .int .u8 49, .int .u8 28, .int .u8 3, .int .u8 61, .int .u8 58, .int .u8 42, .int .u8 50, .int .u8 38, .int .u8 29, .int .u8 17, .int .u8 4, .int .u8 62, .int .u8 47, .int .u8 59, .int .u8 36, .int .u8 45, .int .u8 43, .int .u8 51, .int .u8 22, .int .u8 53, .int .u8 39, .int .u8 33, .int .u8 30, .int .u8 24, .int .u8 18, .int .u8 12, .int .u8 5, .int .u8 63, .int .u8 55, .int .u8 48, .int .u8 27, .int .u8 60, .int .u8 41, .int .u8 37, .int .u8 16, .int .u8 46, .int .u8 35, .int .u8 44, .int .u8 21, .int .u8 52, .int .u8 32, .int .u8 23, .int .u8 11, .int .u8 54, .int .u8 26, .int .u8 40, .int .u8 15, .int .u8 34, .int .u8 20, .int .u8 31, .int .u8 10, .int .u8 25, .int .u8 14, .int .u8 19, .int .u8 9, .int .u8 13, .int .u8 8, .int .u8 7, .int .u8 6] t frozen
      | o => o }
theorem laidWorld_met (os : Os) (args : Array Value) : laidMet Tryd.prog laidL ((laidWorld os).forCall (fun _ _ => 0) ⟨#[], args, []⟩).memory :=
  laidMet_of_run' 8 (by kernel_rfl) (by kernel_rfl)
theorem laid_glob (W : World) (args : Array Value) (h : laidX W args) : Glob.N ≤ W.heap.size ∧ Glob.G fun i => W.heap[i]? := by
  have h1 : laidMet Tryd.prog laidL W := h
  have h3 : Lib.TabIs Tryd.prog W "internal/strconv.uint64pow10" .u64 Lib.pow10Tab :=
    Lib.tabIs_of_head (g := 0) (t := 114) (e := 101) (n := 20) (by kernel_rfl) (by kernel_rfl) (by kernel_rfl) (by kernel_rfl) (by kernel_rfl) (by kernel_rfl) (rest := []) (show laidMet Tryd.prog (("internal/strconv.uint64pow10", Lib.tabData .u64 Lib.pow10Tab) :: []) W from laidMet.tail (laidMet.tail h1))
  have h2 : ∃ cs, W.var? Tryd.prog "math/bits.deBruijn64tab" = some cs := by
    obtain ⟨ps, ⟨g', t', cs, fuel, p, q, hg', ht', hvar, _⟩, _⟩ := (show laidMet Tryd.prog (("math/bits.deBruijn64tab", Rows.laid_math_bits_deBruijn64tab) :: [("internal/strconv.uint64pow10", Rows.laid_internal_strconv_uint64pow10)]) W from laidMet.tail h1)
    exact ⟨cs, hvar⟩
  constructor
  · obtain ⟨cs, hc⟩ := h2
    unfold World.var? at hc
    rw [show Tryd.prog.globalNamed "math/bits.deBruijn64tab" = some 2 by kernel_rfl] at hc
    simp only [Option.bind_some] at hc
    split at hc
    · rename_i c _ _ hh
      have := (Array.getElem?_eq_some_iff.1 hh).1
      show 3 ≤ W.heap.size
      omega
    · cases hc
  · unfold Lib.TabIs World.var? at h3
    rw [show Tryd.prog.globalNamed "internal/strconv.uint64pow10" = some 0 by kernel_rfl] at h3
    exact h3
theorem no_segs {pl : List (Bool × List CK)} {vs : List Value} (h : countSl pl = 0) : ∀ s ∈ segsP pl vs, 0 < s.R → Glob.N ≤ s.r := by
  intro s hs
  have h1 := segsP_len pl vs
  have h2 := List.length_pos_of_mem hs
  omega
theorem needOk {c : Bool} {t : Rx.Tree Res} {r : Res} (h : c = true) (g : t.den = some r) : (Rx.Tree.need c t).den = some r := by
  rw [den_need]; exact ⟨h, g⟩
theorem wf_le {n : Int} (h : wfI .i64 n = true) : n ≤ 9223372036854775807 := by
  have h1 : (decide (IntKind.i64.min ≤ n) && decide (n ≤ IntKind.i64.max)) = true := h
  simp only [Bool.and_eq_true, decide_eq_true_eq] at h1
  have h2 : IntKind.i64.max = 9223372036854775807 := by decide
  omega
/-- The variables' memory holds no number of the arguments' kind. -/
theorem laid_kind (W : World) (args : Array Value) (h : laidX W args) : ∀ r, r < Glob.N → ∀ arr e fr, W.heap[r]? = some (.cells arr e fr) → ∀ (i : Nat) n, arr[i]? ≠ some (.int .i64 n) := by
  have h1 : laidMet Tryd.prog laidL W := h
  have q0 : Lib.TabIs Tryd.prog W "internal/strconv.uint64pow10" .u64 Lib.pow10Tab :=
    Lib.tabIs_of_head (g := 0) (t := 114) (e := 101) (n := 20) (by kernel_rfl) (by kernel_rfl) (by kernel_rfl) (by kernel_rfl) (by kernel_rfl) (by kernel_rfl) (rest := []) (show laidMet Tryd.prog (("internal/strconv.uint64pow10", Lib.tabData .u64 Lib.pow10Tab) :: []) W from laidMet.tail (laidMet.tail h1))
  have q2 : Lib.TabIs Tryd.prog W "math/bits.deBruijn64tab" .u8 [0, 1, 56, 2, 57, 49, 28, 3, 61, 58, 42, 50, 38, 29, 17, 4, 62, 47, 59, 36, 45, 43, 51, 22, 53, 39, 33, 30, 24, 18, 12, 5, 63, 55, 48, 27, 60, 41, 37, 16, 46, 35, 44, 21, 52, 32, 23, 11, 54, 26, 40, 15, 34, 20, 31, 10, 25, 14, 19, 9, 13, 8, 7, 6] :=
    Lib.tabIs_of_head (g := 2) (t := 120) (e := 5) (n := 64) (by kernel_rfl) (by kernel_rfl) (by kernel_rfl) (by kernel_rfl) (by kernel_rfl) (by kernel_rfl) (rest := [("internal/strconv.uint64pow10", Rows.laid_internal_strconv_uint64pow10)]) (show laidMet Tryd.prog (("math/bits.deBruijn64tab", Lib.tabData .u8 [0, 1, 56, 2, 57, 49, 28, 3, 61, 58, 42, 50, 38, 29, 17, 4, 62, 47, 59, 36, 45, 43, 51, 22, 53, 39, 33, 30, 24, 18, 12, 5, 63, 55, 48, 27, 60, 41, 37, 16, 46, 35, 44, 21, 52, 32, 23, 11, 54, 26, 40, 15, 34, 20, 31, 10, 25, 14, 19, 9, 13, 8, 7, 6]) :: [("internal/strconv.uint64pow10", Rows.laid_internal_strconv_uint64pow10)]) W from laidMet.tail h1)
  have q1 : Lib.TabIs Tryd.prog W "math/bits.deBruijn32tab" .u8 [0, 1, 28, 2, 29, 14, 24, 3, 30, 22, 20, 15, 25, 17, 4, 8, 31, 27, 13, 23, 21, 19, 16, 7, 26, 12, 18, 6, 11, 5, 10, 9] :=
    Lib.tabIs_of_head (g := 1) (t := 119) (e := 5) (n := 32) (by kernel_rfl) (by kernel_rfl) (by kernel_rfl) (by kernel_rfl) (by kernel_rfl) (by kernel_rfl) (rest := [("math/bits.deBruijn64tab", Rows.laid_math_bits_deBruijn64tab), ("internal/strconv.uint64pow10", Rows.laid_internal_strconv_uint64pow10)]) (show laidMet Tryd.prog (("math/bits.deBruijn32tab", Lib.tabData .u8 [0, 1, 28, 2, 29, 14, 24, 3, 30, 22, 20, 15, 25, 17, 4, 8, 31, 27, 13, 23, 21, 19, 16, 7, 26, 12, 18, 6, 11, 5, 10, 9]) :: [("math/bits.deBruijn64tab", Rows.laid_math_bits_deBruijn64tab), ("internal/strconv.uint64pow10", Rows.laid_internal_strconv_uint64pow10)]) W from h1)
  have key : ∀ (g : Nat) (name : String) (k : IntKind) (zs : List Int), Tryd.prog.globalNamed name = some g → k ≠ .i64 → Lib.TabIs Tryd.prog W name k zs → ∀ arr e fr, W.heap[g]? = some (.cells arr e fr) → ∀ (i : Nat) n, arr[i]? ≠ some (.int .i64 n) := by
    intro g name k zs hg hk hT arr e fr hh i n hi
    unfold Lib.TabIs World.var? at hT
    rw [hg] at hT
    simp only [Option.bind_some, hh, Option.some.injEq] at hT
    subst hT
    rw [List.getElem?_toArray, List.getElem?_map] at hi
    obtain ⟨z, _, hz⟩ := Option.map_eq_some_iff.1 hi
    cases hz
    exact hk rfl
  intro r hr arr e fr hh i n
  have hr3 : r < 3 := hr
  match r, hr3 with
  | 0, _ => exact key 0 _ _ _ (by kernel_rfl) (by decide) q0 arr e fr hh i n
  | 1, _ => exact key 1 _ _ _ (by kernel_rfl) (by decide) q1 arr e fr hh i n
  | 2, _ => exact key 2 _ _ _ (by kernel_rfl) (by decide) q2 arr e fr hh i n
end Go.Proofs.YtbfiaogmfjadeaaDoor
