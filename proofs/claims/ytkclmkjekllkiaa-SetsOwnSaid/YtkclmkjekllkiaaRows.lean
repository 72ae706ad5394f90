/-
  No cell of these rows narrows 'for every input' (looked for: loops, veiled, ifaces, maps, wideKeys, modest, calm, conditions, laid).
  DERIVED. THE GIVEN ROWS OF THIS SEAT. 7 by the template 'for every input the law returns true; each argument reads behind the call as it read before'; 0 by the template 'total and deterministic' (their statements: YtkclmkjekllkiaaTotals.lean).
  GIVEN WITH THE SEED: the statements are not yours to turn. If you find one false, say at which input.
  Laid BY PROGRAM, IN A SANDBOX (cutbox-rows.mjs): the forced cells as the released guide's own fill.sh prints them over the translation 8b3890b66ccd9433… (all of the seat's roots in one cut). By AI agents, Wed Nov 11 2026. No macro, syntax, notation, axiom, sorry.
-/
import Derived.Test.YtkclmkjekllkiaaChecked
import GoSem.Claim
import GoSem.ClaimJoined
import GoSem.ClaimMapViews
import Derived.JoinedTies
import Derived.KernelRfl
namespace Go.Proofs.Ytkclmkjekllkiaa
/- THE CELL 'sum', in the pinned program and in every row, IS THE sha256 OF THE DUMP (.gsa) THAT YtkclmkjekllkiaaProg.lean LOADS. Nothing in Lean hashes anything: it is a label: what it is worth is what the hold of that sum in a sandbox is worth. -/
noncomputable def Try.pinned : Pinned := { name := "ytkclmkjekllkiaa", sum := "8b3890b66ccd9433198312d8703aeb8992fb87fd732f5667e6419dd5e16f7e1f", checked := Try.checked }
namespace Rows
def none {H : Type} : Left H := { results := [], args := [] }

/-- 'horologelaw20.SetsOwn': WHATEVER THE INPUT: true; the input reads as it did. -/
def setsOwnSpec : ChangeSpec := { name := "setsOwn", fn := fun _ => fun
  | [d1, d2] => { results := [.lit (.bool true)], args := [d1, d2] }
  | _ => none }
def setsOwnRow : OpenClaim := { program := "ytkclmkjekllkiaa", sum := "8b3890b66ccd9433198312d8703aeb8992fb87fd732f5667e6419dd5e16f7e1f", func := "horologe/horologelaw20.SetsOwn", spec := "setsOwn", unfollowed := true, recurses := true, apart := false }
def SetsOwnSaid : Prop := setsOwnRow.holds Try.pinned (OpenSpec.ofChange setsOwnSpec)

/-- ITS FALSE NEIGHBOUR: 'it returns false'. Refute it at one input. -/
def setsOwnWrong : ChangeSpec := { name := "setsOwn", fn := fun _ => fun
  | [d1, d2] => { results := [.lit (.bool false)], args := [d1, d2] }
  | _ => none }
def SetsOwnWrongFalsely : Prop := setsOwnRow.holds Try.pinned (OpenSpec.ofChange setsOwnWrong)

/-- 'horologelaw20.SetsFollows': WHATEVER THE INPUT: true; the input reads as it did. -/
def setsFollowsSpec : ChangeSpec := { name := "setsFollows", fn := fun _ => fun
  | [d] => { results := [.lit (.bool true)], args := [d] }
  | _ => none }
def setsFollowsRow : OpenClaim := { program := "ytkclmkjekllkiaa", sum := "8b3890b66ccd9433198312d8703aeb8992fb87fd732f5667e6419dd5e16f7e1f", func := "horologe/horologelaw20.SetsFollows", spec := "setsFollows", unfollowed := true, recurses := true, apart := false }
def SetsFollowsSaid : Prop := setsFollowsRow.holds Try.pinned (OpenSpec.ofChange setsFollowsSpec)

/-- ITS FALSE NEIGHBOUR: 'it returns false'. Refute it at one input. -/
def setsFollowsWrong : ChangeSpec := { name := "setsFollows", fn := fun _ => fun
  | [d] => { results := [.lit (.bool false)], args := [d] }
  | _ => none }
def SetsFollowsWrongFalsely : Prop := setsFollowsRow.holds Try.pinned (OpenSpec.ofChange setsFollowsWrong)

/-- 'horologelaw20.SetsSays': WHATEVER THE INPUT: true; the input reads as it did. -/
def setsSaysSpec : ChangeSpec := { name := "setsSays", fn := fun _ => fun
  | [d1, d2, d3] => { results := [.lit (.bool true)], args := [d1, d2, d3] }
  | _ => none }
def setsSaysRow : OpenClaim := { program := "ytkclmkjekllkiaa", sum := "8b3890b66ccd9433198312d8703aeb8992fb87fd732f5667e6419dd5e16f7e1f", func := "horologe/horologelaw20.SetsSays", spec := "setsSays", unfollowed := true, recurses := true, apart := false }
def SetsSaysSaid : Prop := setsSaysRow.holds Try.pinned (OpenSpec.ofChange setsSaysSpec)

/-- ITS FALSE NEIGHBOUR: 'it returns false'. Refute it at one input. -/
def setsSaysWrong : ChangeSpec := { name := "setsSays", fn := fun _ => fun
  | [d1, d2, d3] => { results := [.lit (.bool false)], args := [d1, d2, d3] }
  | _ => none }
def SetsSaysWrongFalsely : Prop := setsSaysRow.holds Try.pinned (OpenSpec.ofChange setsSaysWrong)

/-- 'horologelaw20.SetsBack': WHATEVER THE INPUT: true; the input reads as it did. -/
def setsBackSpec : ChangeSpec := { name := "setsBack", fn := fun _ => fun
  | [d1, d2, d3] => { results := [.lit (.bool true)], args := [d1, d2, d3] }
  | _ => none }
def setsBackRow : OpenClaim := { program := "ytkclmkjekllkiaa", sum := "8b3890b66ccd9433198312d8703aeb8992fb87fd732f5667e6419dd5e16f7e1f", func := "horologe/horologelaw20.SetsBack", spec := "setsBack", unfollowed := true, recurses := true, apart := false }
def SetsBackSaid : Prop := setsBackRow.holds Try.pinned (OpenSpec.ofChange setsBackSpec)

/-- ITS FALSE NEIGHBOUR: 'it returns false'. Refute it at one input. -/
def setsBackWrong : ChangeSpec := { name := "setsBack", fn := fun _ => fun
  | [d1, d2, d3] => { results := [.lit (.bool false)], args := [d1, d2, d3] }
  | _ => none }
def SetsBackWrongFalsely : Prop := setsBackRow.holds Try.pinned (OpenSpec.ofChange setsBackWrong)

/-- 'horologelaw20.SetsSame': WHATEVER THE INPUT: true; the input reads as it did. -/
def setsSameSpec : ChangeSpec := { name := "setsSame", fn := fun _ => fun
  | [d1, d2] => { results := [.lit (.bool true)], args := [d1, d2] }
  | _ => none }
def setsSameRow : OpenClaim := { program := "ytkclmkjekllkiaa", sum := "8b3890b66ccd9433198312d8703aeb8992fb87fd732f5667e6419dd5e16f7e1f", func := "horologe/horologelaw20.SetsSame", spec := "setsSame", unfollowed := true, recurses := true, apart := false }
def SetsSameSaid : Prop := setsSameRow.holds Try.pinned (OpenSpec.ofChange setsSameSpec)

/-- ITS FALSE NEIGHBOUR: 'it returns false'. Refute it at one input. -/
def setsSameWrong : ChangeSpec := { name := "setsSame", fn := fun _ => fun
  | [d1, d2] => { results := [.lit (.bool false)], args := [d1, d2] }
  | _ => none }
def SetsSameWrongFalsely : Prop := setsSameRow.holds Try.pinned (OpenSpec.ofChange setsSameWrong)

/-- 'horologelaw20.SetsFar': WHATEVER THE INPUT: true; the input reads as it did. -/
def setsFarSpec : ChangeSpec := { name := "setsFar", fn := fun _ => fun
  | [d1, d2] => { results := [.lit (.bool true)], args := [d1, d2] }
  | _ => none }
def setsFarRow : OpenClaim := { program := "ytkclmkjekllkiaa", sum := "8b3890b66ccd9433198312d8703aeb8992fb87fd732f5667e6419dd5e16f7e1f", func := "horologe/horologelaw20.SetsFar", spec := "setsFar", unfollowed := true, recurses := true, apart := false }
def SetsFarSaid : Prop := setsFarRow.holds Try.pinned (OpenSpec.ofChange setsFarSpec)

/-- ITS FALSE NEIGHBOUR: 'it returns false'. Refute it at one input. -/
def setsFarWrong : ChangeSpec := { name := "setsFar", fn := fun _ => fun
  | [d1, d2] => { results := [.lit (.bool false)], args := [d1, d2] }
  | _ => none }
def SetsFarWrongFalsely : Prop := setsFarRow.holds Try.pinned (OpenSpec.ofChange setsFarWrong)

/-- 'horologelaw20.SetsFlags': WHATEVER THE INPUT: true; the input reads as it did. -/
def setsFlagsSpec : ChangeSpec := { name := "setsFlags", fn := fun _ => fun
  | [d1, d2] => { results := [.lit (.bool true)], args := [d1, d2] }
  | _ => none }
def setsFlagsRow : OpenClaim := { program := "ytkclmkjekllkiaa", sum := "8b3890b66ccd9433198312d8703aeb8992fb87fd732f5667e6419dd5e16f7e1f", func := "horologe/horologelaw20.SetsFlags", spec := "setsFlags", unfollowed := true, recurses := true, apart := false }
def SetsFlagsSaid : Prop := setsFlagsRow.holds Try.pinned (OpenSpec.ofChange setsFlagsSpec)

/-- ITS FALSE NEIGHBOUR: 'it returns false'. Refute it at one input. -/
def setsFlagsWrong : ChangeSpec := { name := "setsFlags", fn := fun _ => fun
  | [d1, d2] => { results := [.lit (.bool false)], args := [d1, d2] }
  | _ => none }
def SetsFlagsWrongFalsely : Prop := setsFlagsRow.holds Try.pinned (OpenSpec.ofChange setsFlagsWrong)

/- THE SECOND FORM. 'bulk': how many values and letters a reading holds, each counted each time it is reached (what is shared counts as often as it is met; a slice's spare places count too). A statement '..UptoSaid' is the law's where the arguments, and the package variables that the reading takes, are together of bulk at most 1048576: NARROWER than '..Said'. Prove '..Said' where nothing that the law and all that it calls make is longer than what came in: it says more and counts as full. Else prove '..UptoSaid'. A law counts once. -/
mutual
def uptoBulk {H : Type} : DataW H → Nat
  | .lit (.string bytes) => bytes.length + 1
  | .lit _ => 1
  | .nil => 1
  | .ptr d => uptoBulk d + 1
  | .slice elems spare => uptoBulkAll elems + uptoBulkAll spare + 1
  | .agg parts => uptoBulkAll parts + 1
  | .iface _ d => uptoBulk d + 1
  | .map entries => uptoBulkEntries entries + 1
  | .held _ => 1
def uptoBulkAll {H : Type} : List (DataW H) → Nat
  | [] => 0
  | d :: r => uptoBulk d + uptoBulkAll r
def uptoBulkEntries {H : Type} : List (Lit × DataW H) → Nat
  | [] => 0
  | x :: r => uptoBulkEntry x + uptoBulkEntries r
def uptoBulkEntry {H : Type} : Lit × DataW H → Nat
  | (.string bytes, d) => bytes.length + uptoBulk d + 1
  | (_, d) => uptoBulk d + 1
 end
def uptoSmall : (H : Type) → List (DataW H) → Bool := fun _ ds => decide (uptoBulkAll ds ≤ 1048576)
def OpenSpec.upto (s : _root_.Go.ChangeSpec) : _root_.Go.OpenSpec := { _root_.Go.OpenSpec.ofChange s with cond := some uptoSmall }

/-- 'horologelaw20.SetsOwn', WHERE WHAT IT READS IS OF BULK AT MOST 1048576: true; the input reads as it did. -/
def setsOwnUptoRow : OpenClaim := { program := "ytkclmkjekllkiaa", sum := "8b3890b66ccd9433198312d8703aeb8992fb87fd732f5667e6419dd5e16f7e1f", func := "horologe/horologelaw20.SetsOwn", spec := "setsOwn", unfollowed := true, recurses := true, apart := false, narrowed := true }
def SetsOwnUptoSaid : Prop := setsOwnUptoRow.holds Try.pinned (OpenSpec.upto setsOwnSpec)

/-- 'horologelaw20.SetsFollows', WHERE WHAT IT READS IS OF BULK AT MOST 1048576: true; the input reads as it did. -/
def setsFollowsUptoRow : OpenClaim := { program := "ytkclmkjekllkiaa", sum := "8b3890b66ccd9433198312d8703aeb8992fb87fd732f5667e6419dd5e16f7e1f", func := "horologe/horologelaw20.SetsFollows", spec := "setsFollows", unfollowed := true, recurses := true, apart := false, narrowed := true }
def SetsFollowsUptoSaid : Prop := setsFollowsUptoRow.holds Try.pinned (OpenSpec.upto setsFollowsSpec)

/-- 'horologelaw20.SetsSays', WHERE WHAT IT READS IS OF BULK AT MOST 1048576: true; the input reads as it did. -/
def setsSaysUptoRow : OpenClaim := { program := "ytkclmkjekllkiaa", sum := "8b3890b66ccd9433198312d8703aeb8992fb87fd732f5667e6419dd5e16f7e1f", func := "horologe/horologelaw20.SetsSays", spec := "setsSays", unfollowed := true, recurses := true, apart := false, narrowed := true }
def SetsSaysUptoSaid : Prop := setsSaysUptoRow.holds Try.pinned (OpenSpec.upto setsSaysSpec)

/-- 'horologelaw20.SetsBack', WHERE WHAT IT READS IS OF BULK AT MOST 1048576: true; the input reads as it did. -/
def setsBackUptoRow : OpenClaim := { program := "ytkclmkjekllkiaa", sum := "8b3890b66ccd9433198312d8703aeb8992fb87fd732f5667e6419dd5e16f7e1f", func := "horologe/horologelaw20.SetsBack", spec := "setsBack", unfollowed := true, recurses := true, apart := false, narrowed := true }
def SetsBackUptoSaid : Prop := setsBackUptoRow.holds Try.pinned (OpenSpec.upto setsBackSpec)

/-- 'horologelaw20.SetsSame', WHERE WHAT IT READS IS OF BULK AT MOST 1048576: true; the input reads as it did. -/
def setsSameUptoRow : OpenClaim := { program := "ytkclmkjekllkiaa", sum := "8b3890b66ccd9433198312d8703aeb8992fb87fd732f5667e6419dd5e16f7e1f", func := "horologe/horologelaw20.SetsSame", spec := "setsSame", unfollowed := true, recurses := true, apart := false, narrowed := true }
def SetsSameUptoSaid : Prop := setsSameUptoRow.holds Try.pinned (OpenSpec.upto setsSameSpec)

/-- 'horologelaw20.SetsFar', WHERE WHAT IT READS IS OF BULK AT MOST 1048576: true; the input reads as it did. -/
def setsFarUptoRow : OpenClaim := { program := "ytkclmkjekllkiaa", sum := "8b3890b66ccd9433198312d8703aeb8992fb87fd732f5667e6419dd5e16f7e1f", func := "horologe/horologelaw20.SetsFar", spec := "setsFar", unfollowed := true, recurses := true, apart := false, narrowed := true }
def SetsFarUptoSaid : Prop := setsFarUptoRow.holds Try.pinned (OpenSpec.upto setsFarSpec)

/-- 'horologelaw20.SetsFlags', WHERE WHAT IT READS IS OF BULK AT MOST 1048576: true; the input reads as it did. -/
def setsFlagsUptoRow : OpenClaim := { program := "ytkclmkjekllkiaa", sum := "8b3890b66ccd9433198312d8703aeb8992fb87fd732f5667e6419dd5e16f7e1f", func := "horologe/horologelaw20.SetsFlags", spec := "setsFlags", unfollowed := true, recurses := true, apart := false, narrowed := true }
def SetsFlagsUptoSaid : Prop := setsFlagsUptoRow.holds Try.pinned (OpenSpec.upto setsFlagsSpec)

end Rows
end Go.Proofs.Ytkclmkjekllkiaa
