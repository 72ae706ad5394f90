/-
  No cell of these rows narrows 'for every input' (looked for: loops, veiled, ifaces, maps, wideKeys, modest, calm, conditions, laid).
  DERIVED. THE GIVEN ROWS OF THIS SEAT. 6 by the template 'for every input the law returns true; each argument reads behind the call as it read before'; 0 by the template 'total and deterministic' (their statements: YtgdalboilghciaaTotals.lean).
  GIVEN WITH THE SEED: the statements are not yours to turn. If you find one false, say at which input.
  Laid BY PROGRAM, IN A SANDBOX (cutbox-rows.mjs): the forced cells as the released guide's own fill.sh prints them over the translation c86f54894e37734f… (all of the seat's roots in one cut). By AI agents, Wed Nov 11 2026. No macro, syntax, notation, axiom, sorry.
-/
import Derived.Test.YtgdalboilghciaaChecked
import GoSem.Claim
import GoSem.ClaimJoined
import GoSem.ClaimMapViews
import Derived.JoinedTies
import Derived.KernelRfl
namespace Go.Proofs.Ytgdalboilghciaa
/- THE CELL 'sum', in the pinned program and in every row, IS THE sha256 OF THE DUMP (.gsa) THAT YtgdalboilghciaaProg.lean LOADS. Nothing in Lean hashes anything: it is a label: what it is worth is what the hold of that sum in a sandbox is worth. -/
noncomputable def Try.pinned : Pinned := { name := "ytgdalboilghciaa", sum := "c86f54894e37734f852208e557d57655f725525955a34fc8c34eb6cc9f7532c7", checked := Try.checked }
namespace Rows
def none {H : Type} : Left H := { results := [], args := [] }

/-- 'horologelaw08.ForeignOften': WHATEVER THE INPUT: true; the input reads as it did. -/
def foreignOftenSpec : ChangeSpec := { name := "foreignOften", fn := fun _ => fun
  | [d1, d2, d3] => { results := [.lit (.bool true)], args := [d1, d2, d3] }
  | _ => none }
def foreignOftenRow : OpenClaim := { program := "ytgdalboilghciaa", sum := "c86f54894e37734f852208e557d57655f725525955a34fc8c34eb6cc9f7532c7", func := "horologe/horologelaw08.ForeignOften", spec := "foreignOften", unfollowed := true, recurses := true, plainKeys := false, apart := false }
def ForeignOftenSaid : Prop := foreignOftenRow.holds Try.pinned (OpenSpec.ofChange foreignOftenSpec)

/-- ITS FALSE NEIGHBOUR: 'it returns false'. Refute it at one input. -/
def foreignOftenWrong : ChangeSpec := { name := "foreignOften", fn := fun _ => fun
  | [d1, d2, d3] => { results := [.lit (.bool false)], args := [d1, d2, d3] }
  | _ => none }
def ForeignOftenWrongFalsely : Prop := foreignOftenRow.holds Try.pinned (OpenSpec.ofChange foreignOftenWrong)

/-- 'horologelaw08.ForeignFull': WHATEVER THE INPUT: true; the input reads as it did. -/
def foreignFullSpec : ChangeSpec := { name := "foreignFull", fn := fun _ => fun
  | [d1, d2, d3] => { results := [.lit (.bool true)], args := [d1, d2, d3] }
  | _ => none }
def foreignFullRow : OpenClaim := { program := "ytgdalboilghciaa", sum := "c86f54894e37734f852208e557d57655f725525955a34fc8c34eb6cc9f7532c7", func := "horologe/horologelaw08.ForeignFull", spec := "foreignFull", unfollowed := true, recurses := true, plainKeys := false, apart := false }
def ForeignFullSaid : Prop := foreignFullRow.holds Try.pinned (OpenSpec.ofChange foreignFullSpec)

/-- ITS FALSE NEIGHBOUR: 'it returns false'. Refute it at one input. -/
def foreignFullWrong : ChangeSpec := { name := "foreignFull", fn := fun _ => fun
  | [d1, d2, d3] => { results := [.lit (.bool false)], args := [d1, d2, d3] }
  | _ => none }
def ForeignFullWrongFalsely : Prop := foreignFullRow.holds Try.pinned (OpenSpec.ofChange foreignFullWrong)

/-- 'horologelaw08.ForeignBounds': WHATEVER THE INPUT: true; the input reads as it did. -/
def foreignBoundsSpec : ChangeSpec := { name := "foreignBounds", fn := fun _ => fun
  | [d1, d2] => { results := [.lit (.bool true)], args := [d1, d2] }
  | _ => none }
def foreignBoundsRow : OpenClaim := { program := "ytgdalboilghciaa", sum := "c86f54894e37734f852208e557d57655f725525955a34fc8c34eb6cc9f7532c7", func := "horologe/horologelaw08.ForeignBounds", spec := "foreignBounds", unfollowed := true, recurses := true, plainKeys := false, apart := false }
def ForeignBoundsSaid : Prop := foreignBoundsRow.holds Try.pinned (OpenSpec.ofChange foreignBoundsSpec)

/-- ITS FALSE NEIGHBOUR: 'it returns false'. Refute it at one input. -/
def foreignBoundsWrong : ChangeSpec := { name := "foreignBounds", fn := fun _ => fun
  | [d1, d2] => { results := [.lit (.bool false)], args := [d1, d2] }
  | _ => none }
def ForeignBoundsWrongFalsely : Prop := foreignBoundsRow.holds Try.pinned (OpenSpec.ofChange foreignBoundsWrong)

/-- 'horologelaw08.ForeignEnds': WHATEVER THE INPUT: true; the input reads as it did. -/
def foreignEndsSpec : ChangeSpec := { name := "foreignEnds", fn := fun _ => fun
  | [d1, d2] => { results := [.lit (.bool true)], args := [d1, d2] }
  | _ => none }
def foreignEndsRow : OpenClaim := { program := "ytgdalboilghciaa", sum := "c86f54894e37734f852208e557d57655f725525955a34fc8c34eb6cc9f7532c7", func := "horologe/horologelaw08.ForeignEnds", spec := "foreignEnds", unfollowed := true, recurses := true, plainKeys := false, apart := false }
def ForeignEndsSaid : Prop := foreignEndsRow.holds Try.pinned (OpenSpec.ofChange foreignEndsSpec)

/-- ITS FALSE NEIGHBOUR: 'it returns false'. Refute it at one input. -/
def foreignEndsWrong : ChangeSpec := { name := "foreignEnds", fn := fun _ => fun
  | [d1, d2] => { results := [.lit (.bool false)], args := [d1, d2] }
  | _ => none }
def ForeignEndsWrongFalsely : Prop := foreignEndsRow.holds Try.pinned (OpenSpec.ofChange foreignEndsWrong)

/-- 'horologelaw08.ForeignAll': WHATEVER THE INPUT: true; the input reads as it did. -/
def foreignAllSpec : ChangeSpec := { name := "foreignAll", fn := fun _ => fun
  | [d1, d2, d3] => { results := [.lit (.bool true)], args := [d1, d2, d3] }
  | _ => none }
def foreignAllRow : OpenClaim := { program := "ytgdalboilghciaa", sum := "c86f54894e37734f852208e557d57655f725525955a34fc8c34eb6cc9f7532c7", func := "horologe/horologelaw08.ForeignAll", spec := "foreignAll", unfollowed := true, recurses := true, plainKeys := false, apart := false }
def ForeignAllSaid : Prop := foreignAllRow.holds Try.pinned (OpenSpec.ofChange foreignAllSpec)

/-- ITS FALSE NEIGHBOUR: 'it returns false'. Refute it at one input. -/
def foreignAllWrong : ChangeSpec := { name := "foreignAll", fn := fun _ => fun
  | [d1, d2, d3] => { results := [.lit (.bool false)], args := [d1, d2, d3] }
  | _ => none }
def ForeignAllWrongFalsely : Prop := foreignAllRow.holds Try.pinned (OpenSpec.ofChange foreignAllWrong)

/-- 'horologelaw08.ForeignApart': WHATEVER THE INPUT: true; the input reads as it did. -/
def foreignApartSpec : ChangeSpec := { name := "foreignApart", fn := fun _ => fun
  | [d1, d2, d3] => { results := [.lit (.bool true)], args := [d1, d2, d3] }
  | _ => none }
def foreignApartRow : OpenClaim := { program := "ytgdalboilghciaa", sum := "c86f54894e37734f852208e557d57655f725525955a34fc8c34eb6cc9f7532c7", func := "horologe/horologelaw08.ForeignApart", spec := "foreignApart", unfollowed := true, recurses := true, plainKeys := false, apart := false }
def ForeignApartSaid : Prop := foreignApartRow.holds Try.pinned (OpenSpec.ofChange foreignApartSpec)

/-- ITS FALSE NEIGHBOUR: 'it returns false'. Refute it at one input. -/
def foreignApartWrong : ChangeSpec := { name := "foreignApart", fn := fun _ => fun
  | [d1, d2, d3] => { results := [.lit (.bool false)], args := [d1, d2, d3] }
  | _ => none }
def ForeignApartWrongFalsely : Prop := foreignApartRow.holds Try.pinned (OpenSpec.ofChange foreignApartWrong)

/- THE SECOND FORM. 'bulk': how many values and letters a reading holds, each counted each time it is reached (what is shared counts as often as it is met; a slice's spare places count too). A statement '..UptoSaid' is the law's where the arguments, and the package variables that the reading takes, are together of bulk at most 1048576: NARROWER than '..Said'. Prove '..Said' where nothing that the law and all that it calls make is longer than what came in: it says more and counts as full. Else prove '..UptoSaid'. A law counts once. -/
mutual
def uptoBulk {H : Type} : DataW H → Nat
  | .lit (.string bytes) => bytes.length + 1
  | .lit _ => 1
  | .nil => 1
  | .ptr d => uptoBulk d + 1
  | .slice elems spare => uptoBulkAll elems + uptoBulkAll spare + 1
  | .agg parts => uptoBulkAll parts + 1
  | .iface _ d => uptoBulk d + 1
  | .map entries => uptoBulkEntries entries + 1
  | .held _ => 1
def uptoBulkAll {H : Type} : List (DataW H) → Nat
  | [] => 0
  | d :: r => uptoBulk d + uptoBulkAll r
def uptoBulkEntries {H : Type} : List (Lit × DataW H) → Nat
  | [] => 0
  | x :: r => uptoBulkEntry x + uptoBulkEntries r
def uptoBulkEntry {H : Type} : Lit × DataW H → Nat
  | (.string bytes, d) => bytes.length + uptoBulk d + 1
  | (_, d) => uptoBulk d + 1
 end
def uptoSmall : (H : Type) → List (DataW H) → Bool := fun _ ds => decide (uptoBulkAll ds ≤ 1048576)
def OpenSpec.upto (s : _root_.Go.ChangeSpec) : _root_.Go.OpenSpec := { _root_.Go.OpenSpec.ofChange s with cond := some uptoSmall }

/-- 'horologelaw08.ForeignOften', WHERE WHAT IT READS IS OF BULK AT MOST 1048576: true; the input reads as it did. -/
def foreignOftenUptoRow : OpenClaim := { program := "ytgdalboilghciaa", sum := "c86f54894e37734f852208e557d57655f725525955a34fc8c34eb6cc9f7532c7", func := "horologe/horologelaw08.ForeignOften", spec := "foreignOften", unfollowed := true, recurses := true, plainKeys := false, apart := false, narrowed := true }
def ForeignOftenUptoSaid : Prop := foreignOftenUptoRow.holds Try.pinned (OpenSpec.upto foreignOftenSpec)

/-- 'horologelaw08.ForeignFull', WHERE WHAT IT READS IS OF BULK AT MOST 1048576: true; the input reads as it did. -/
def foreignFullUptoRow : OpenClaim := { program := "ytgdalboilghciaa", sum := "c86f54894e37734f852208e557d57655f725525955a34fc8c34eb6cc9f7532c7", func := "horologe/horologelaw08.ForeignFull", spec := "foreignFull", unfollowed := true, recurses := true, plainKeys := false, apart := false, narrowed := true }
def ForeignFullUptoSaid : Prop := foreignFullUptoRow.holds Try.pinned (OpenSpec.upto foreignFullSpec)

/-- 'horologelaw08.ForeignBounds', WHERE WHAT IT READS IS OF BULK AT MOST 1048576: true; the input reads as it did. -/
def foreignBoundsUptoRow : OpenClaim := { program := "ytgdalboilghciaa", sum := "c86f54894e37734f852208e557d57655f725525955a34fc8c34eb6cc9f7532c7", func := "horologe/horologelaw08.ForeignBounds", spec := "foreignBounds", unfollowed := true, recurses := true, plainKeys := false, apart := false, narrowed := true }
def ForeignBoundsUptoSaid : Prop := foreignBoundsUptoRow.holds Try.pinned (OpenSpec.upto foreignBoundsSpec)

/-- 'horologelaw08.ForeignEnds', WHERE WHAT IT READS IS OF BULK AT MOST 1048576: true; the input reads as it did. -/
def foreignEndsUptoRow : OpenClaim := { program := "ytgdalboilghciaa", sum := "c86f54894e37734f852208e557d57655f725525955a34fc8c34eb6cc9f7532c7", func := "horologe/horologelaw08.ForeignEnds", spec := "foreignEnds", unfollowed := true, recurses := true, plainKeys := false, apart := false, narrowed := true }
def ForeignEndsUptoSaid : Prop := foreignEndsUptoRow.holds Try.pinned (OpenSpec.upto foreignEndsSpec)

/-- 'horologelaw08.ForeignAll', WHERE WHAT IT READS IS OF BULK AT MOST 1048576: true; the input reads as it did. -/
def foreignAllUptoRow : OpenClaim := { program := "ytgdalboilghciaa", sum := "c86f54894e37734f852208e557d57655f725525955a34fc8c34eb6cc9f7532c7", func := "horologe/horologelaw08.ForeignAll", spec := "foreignAll", unfollowed := true, recurses := true, plainKeys := false, apart := false, narrowed := true }
def ForeignAllUptoSaid : Prop := foreignAllUptoRow.holds Try.pinned (OpenSpec.upto foreignAllSpec)

/-- 'horologelaw08.ForeignApart', WHERE WHAT IT READS IS OF BULK AT MOST 1048576: true; the input reads as it did. -/
def foreignApartUptoRow : OpenClaim := { program := "ytgdalboilghciaa", sum := "c86f54894e37734f852208e557d57655f725525955a34fc8c34eb6cc9f7532c7", func := "horologe/horologelaw08.ForeignApart", spec := "foreignApart", unfollowed := true, recurses := true, plainKeys := false, apart := false, narrowed := true }
def ForeignApartUptoSaid : Prop := foreignApartUptoRow.holds Try.pinned (OpenSpec.upto foreignApartSpec)

end Rows
end Go.Proofs.Ytgdalboilghciaa
