/- Layer 17: what the rows of its laws share. Condition: the package variables that the rows list start as the text lays them. -/
import Derived.Test.YtkgbphheppfnaaaDoorCfD
import Derived.Test.YtkgbphheppfnaaaDoorRows
import Derived.Test.YtkgbphheppfnaaaDoorCards
import Derived.Test.YtkgbphheppfnaaaDoorTie
import Derived.LaidLaws
import Derived.Lay
import Derived.Shelf.Vars
import Derived.Stop.LaidErr
import Derived.JoinedOf
import Derived.ChangeSame
import Derived.Lib.LaidTab
import Derived.SevenTiedAt
set_option maxRecDepth 100000
set_option linter.unusedSimpArgs false
set_option linter.unusedVariables false
namespace Go.Proofs.YtkgbphheppfnaaaDoor
open Go.Rx Go.ChangeShapes Go.WideShapes Go.ChangeAt Go.RowKit

theorem own : ownKnob Tryd.prog.godebug = none := by kernel_rfl
theorem laidOut : laidOutB Tryd.prog = true := by kernel_rfl
def laidL : List (String × DataW Unit) := [("math/bits.deBruijn32tab", Rows.laid_math_bits_deBruijn32tab), ("math/bits.deBruijn64tab", Rows.laid_math_bits_deBruijn64tab), ("internal/strconv.uint64pow10", Rows.laid_internal_strconv_uint64pow10), ("unicode/utf8.acceptRanges", Rows.laid_unicode_utf8_acceptRanges), ("strconv.ErrRange", Rows.laid_strconv_ErrRange), ("strconv.ErrSyntax", Rows.laid_strconv_ErrSyntax), ("unicode/utf8.first", Rows.laid_unicode_utf8_first)]
def laidX : World → Array Value → Prop := fun w _ => laidMet Tryd.prog laidL w
/-- The first world: what is listed is laid. -/
noncomputable abbrev laidWorld (os : Os) : World := World.laidAll Tryd.prog os laidL
theorem laidWorld_met (os : Os) (args : Array Value) : laidMet Tryd.prog laidL ((laidWorld os).forCall (fun _ _ => 0) ⟨#[], args, []⟩).memory := laidMet_laidAll _ (by kernel_rfl) (by kernel_rfl)
theorem star : "*" ++ "errors.errorString" = "*errors.errorString" := by decide
theorem row138 (u : TypeId) (h : Tryd.prog.typeName? 3 u = some "*errors.errorString") : u = 138 :=
  typeName_ptr_named (nm := "errors.errorString") (by rw [star]; kernel_rfl) (by kernel_rfl) (by decide) u (by rw [star]; exact h)
theorem err_of {W : World} {n : String} {text : List UInt8} {r : List (String × DataW Unit)} {g : Nat} (h : laidMet Tryd.prog ((n, .iface "*errors.errorString" (.ptr (.agg [.lit (.string text)]))) :: r) W) (hg : Tryd.prog.globalNamed n = some g)
    (ht : (Tryd.prog.globals[g]?).map (·.type) = some 94) : errAt (fun i => W.heap[i]?) g := by
  obtain ⟨ms, hi⟩ : ∃ ms, Tryd.prog.underlying 94 = some (.interface ms) := ⟨_, Tryd.underlying94⟩
  obtain ⟨f, he, hft, hfo⟩ : ∃ f, Tryd.prog.underlying 140 = some (.struct #[f]) ∧ f.type = 9 ∧ f.offset = 0 := ⟨_, Tryd.underlying140, rfl, rfl⟩
  obtain ⟨a, s, hv, _⟩ := laid_sentinel h hg ht hi row138 (by kernel_rfl) he hft hfo (by kernel_rfl) (by kernel_rfl) (by kernel_rfl)
  refine ⟨.iface 138 (.pointer (some a)), ?_, .inr ⟨_, _, rfl⟩⟩
  unfold World.var? at hv
  rw [hg] at hv
  simp only [Option.bind_some] at hv ⊢
  split at hv
  · rename_i c _ _ hh
    cases hv
    rw [hh]; rfl
  · cases hv
theorem laid_glob (W : World) (args : Array Value) (hsh : W.ShapedOpen Tryd.prog) (h : laidX W args) : Glob.N ≤ W.heap.size ∧ Glob.G fun i => W.heap[i]? := by
  have h1 : laidMet Tryd.prog laidL W := h
  have h3 : Lib.TabIs Tryd.prog W "internal/strconv.uint64pow10" .u64 Lib.pow10Tab :=
    Lib.tabIs_of_head (g := 1) (t := 108) (e := 100) (n := 20) (by kernel_rfl) (by kernel_rfl) (by kernel_rfl) (by kernel_rfl) (by kernel_rfl) (by kernel_rfl) (rest := [("unicode/utf8.acceptRanges", Rows.laid_unicode_utf8_acceptRanges), ("strconv.ErrRange", Rows.laid_strconv_ErrRange), ("strconv.ErrSyntax", Rows.laid_strconv_ErrSyntax), ("unicode/utf8.first", Rows.laid_unicode_utf8_first)]) (show laidMet Tryd.prog (("internal/strconv.uint64pow10", Lib.tabData .u64 Lib.pow10Tab) :: [("unicode/utf8.acceptRanges", Rows.laid_unicode_utf8_acceptRanges), ("strconv.ErrRange", Rows.laid_strconv_ErrRange), ("strconv.ErrSyntax", Rows.laid_strconv_ErrSyntax), ("unicode/utf8.first", Rows.laid_unicode_utf8_first)]) W from (laidMet.tail (laidMet.tail h1)))
  have h2 : ∃ cs, W.var? Tryd.prog "math/bits.deBruijn64tab" = some cs := by
    obtain ⟨ps, ⟨g', t', cs, fuel, p, q, hg', ht', hvar, _⟩, _⟩ := (show laidMet Tryd.prog (("math/bits.deBruijn64tab", Rows.laid_math_bits_deBruijn64tab) :: [("internal/strconv.uint64pow10", Rows.laid_internal_strconv_uint64pow10), ("unicode/utf8.acceptRanges", Rows.laid_unicode_utf8_acceptRanges), ("strconv.ErrRange", Rows.laid_strconv_ErrRange), ("strconv.ErrSyntax", Rows.laid_strconv_ErrSyntax), ("unicode/utf8.first", Rows.laid_unicode_utf8_first)]) W from (laidMet.tail h1))
    exact ⟨cs, hvar⟩
  have h4 : errAt (fun i => W.heap[i]?) 5 := err_of (n := "strconv.ErrRange") (r := [("strconv.ErrSyntax", Rows.laid_strconv_ErrSyntax), ("unicode/utf8.first", Rows.laid_unicode_utf8_first)]) (laidMet.tail (laidMet.tail (laidMet.tail (laidMet.tail h1)))) (by kernel_rfl) (by kernel_rfl)
  have h5 : errAt (fun i => W.heap[i]?) 4 := err_of (n := "strconv.ErrSyntax") (r := [("unicode/utf8.first", Rows.laid_unicode_utf8_first)]) (laidMet.tail (laidMet.tail (laidMet.tail (laidMet.tail (laidMet.tail h1))))) (by kernel_rfl) (by kernel_rfl)
  constructor
  · obtain ⟨cs, hc⟩ := h2
    unfold World.var? at hc
    rw [show Tryd.prog.globalNamed "math/bits.deBruijn64tab" = some 7 by kernel_rfl] at hc
    simp only [Option.bind_some] at hc
    split at hc
    · rename_i c _ _ hh
      have := (Array.getElem?_eq_some_iff.1 hh).1
      show 8 ≤ W.heap.size
      omega
    · cases hc
  · refine ⟨?_, ?_, h5, h4⟩
    · unfold Lib.TabIs World.var? at h3
      rw [show Tryd.prog.globalNamed "internal/strconv.uint64pow10" = some 1 by kernel_rfl] at h3
      exact h3
    · obtain ⟨m, hm⟩ := cell_of_shapedOpen_int (g := 0) (t := 3) (zero := #[.int .i64 0]) (k := .i64) hsh (by decide +kernel) (by kernel_rfl) rfl (by kernel_rfl) (by kernel_rfl) (by kernel_rfl)
      refine ⟨m, ?_⟩
      unfold World.cell? at hm
      simp only at hm ⊢
      split at hm
      · rename_i hh; rw [hh]; exact hm
      · cases hm
theorem needOk {c : Bool} {t : Rx.Tree Res} {r : Res} (h : c = true) (g : t.den = some r) : (Rx.Tree.need c t).den = some r := by
  rw [den_need]; exact ⟨h, g⟩
theorem wf_in {n : Int} (h : wfI .i64 n = true) : inI n = true := by
  have h1 : (decide (IntKind.i64.min ≤ n) && decide (n ≤ IntKind.i64.max)) = true := h
  exact h1
theorem wf_u8 {n : Int} (h : wfI .u8 n = true) : u8B n = true := by
  have h1 : (decide (IntKind.u8.min ≤ n) && decide (n ≤ IntKind.u8.max)) = true := h
  exact h1
theorem pots_I {rs : List (List V)} (h : ∀ r ∈ rs, KVs poK r) : (pots rs).all potI = true := by
  rw [List.all_eq_true]
  intro x hx
  obtain ⟨r, hr, rfl⟩ := List.mem_map.1 hx
  have := h r hr
  simp only [poK, KVs, KV] at this
  obtain ⟨_, _, rfl, ⟨n0, rfl, w0⟩, _, _, rfl, ⟨n1, rfl, w1⟩, _, _, rfl, ⟨n2, rfl, w2⟩, _, _, rfl, ⟨n3, rfl, w3⟩, _, _, rfl, ⟨n4, rfl, w4⟩, _, _, rfl, ⟨n5, rfl, w5⟩, rfl⟩ := this
  show (inI n0 && inI n1 && inI n2 && inI n3 && inI n4 && inI n5) = true
  simp only [wf_in w0, wf_in w1, wf_in w2, wf_in w3, wf_in w4, wf_in w5, Bool.and_self]
/-- A variable whose cells are of other kinds holds no int. -/
theorem no_int {W : World} (hsh : W.ShapedOpen Tryd.prog) {g : Nat} {t : TypeId} {zero : Array Value} {ts : List TypeId} (hg : g < Tryd.prog.globals.size)
    (h0 : ((begin Tryd.prog (fun _ _ => 0) default).world.heap[g]?).bind Obj.row? = some (zero, t)) (hb : Tryd.prog.buildable t = true) (hc : Tryd.prog.cellTypes Tryd.prog.depth t = some ts)
    (hk : ts.all (fun u => match Tryd.prog.underlying u with | some (.int .i64) => false | some (.int _) => true | _ => false) = true) : ∀ arr e fr, W.heap[g]? = some (.cells arr e fr) → ∀ (i : Nat) n, arr[i]? ≠ some (.int .i64 n) := by
  intro arr e fr hh i n hi
  obtain ⟨cs, hh2, hs, hr⟩ := hsh.1 g zero t hg h0
  rw [hh2] at hh
  cases hh
  obtain ⟨ts', hts, _, hall⟩ := hr hb
  rw [hc] at hts
  cases hts
  obtain ⟨u, hu, hok⟩ := hall i _ hi
  have := List.all_eq_true.1 hk u (List.mem_of_getElem? hu)
  unfold Cell.ok at hok
  split at this
  · cases this
  · rename_i k hne heq
    rw [heq] at hok
    simp only at hok
    exact hne hok.1.symm
  · cases this
/-- A variable of so many cells. -/
theorem short {W : World} (hsh : W.ShapedOpen Tryd.prog) {g : Nat} {t : TypeId} {zero : Array Value} (hg : g < Tryd.prog.globals.size)
    (h0 : ((begin Tryd.prog (fun _ _ => 0) default).world.heap[g]?).bind Obj.row? = some (zero, t)) (hz : zero.size < 6) : ∀ arr e fr, W.heap[g]? = some (.cells arr e fr) → ¬ 6 ≤ arr.size := by
  intro arr e fr hh h6
  obtain ⟨cs, hh2, hs, hr⟩ := hsh.1 g zero t hg h0
  rw [hh2] at hh
  cases hh
  omega
theorem laid_kind (W : World) (args : Array Value) (hsh : W.ShapedOpen Tryd.prog) (h : laidX W args) : ∀ r, r < Glob.N → ∀ arr e fr, W.heap[r]? = some (.cells arr e fr) → 6 ≤ arr.size → ∀ (i : Nat) n, arr[i]? ≠ some (.int .i64 n) := by
  intro r hr arr e fr hh h6 i n
  have hr8 : r < 8 := hr
  match r, hr8 with
  | 0, _ => exact absurd h6 (short hsh (g := 0) (t := 3) (zero := #[.int .i64 0]) (by decide +kernel) (by kernel_rfl) (by decide) arr e fr hh)
  | 1, _ => exact no_int hsh (g := 1) (t := 108) (zero := (List.replicate 20 (Value.int .u64 0)).toArray) (ts := List.replicate 20 100) (by decide +kernel) (by kernel_rfl) (by kernel_rfl) (by kernel_rfl) (by kernel_rfl) arr e fr hh i n
  | 2, _ => exact no_int hsh (g := 2) (t := 113) (zero := (List.replicate 256 (Value.int .u8 0)).toArray) (ts := List.replicate 256 5) (by decide +kernel) (by kernel_rfl) (by kernel_rfl) (by kernel_rfl) (by kernel_rfl) arr e fr hh i n
  | 3, _ => exact no_int hsh (g := 3) (t := 116) (zero := (List.replicate 32 (Value.int .u8 0)).toArray) (ts := List.replicate 32 5) (by decide +kernel) (by kernel_rfl) (by kernel_rfl) (by kernel_rfl) (by kernel_rfl) arr e fr hh i n
  | 4, _ => exact absurd h6 (short hsh (g := 4) (t := 94) (zero := #[.nilIface]) (by decide +kernel) (by kernel_rfl) (by decide) arr e fr hh)
  | 5, _ => exact absurd h6 (short hsh (g := 5) (t := 94) (zero := #[.nilIface]) (by decide +kernel) (by kernel_rfl) (by decide) arr e fr hh)
  | 6, _ => exact no_int hsh (g := 6) (t := 133) (zero := (List.replicate 32 (Value.int .u8 0)).toArray) (ts := List.replicate 32 5) (by decide +kernel) (by kernel_rfl) (by kernel_rfl) (by kernel_rfl) (by kernel_rfl) arr e fr hh i n
  | 7, _ => exact no_int hsh (g := 7) (t := 134) (zero := (List.replicate 64 (Value.int .u8 0)).toArray) (ts := List.replicate 64 5) (by decide +kernel) (by kernel_rfl) (by kernel_rfl) (by kernel_rfl) (by kernel_rfl) arr e fr hh i n
end Go.Proofs.YtkgbphheppfnaaaDoor
