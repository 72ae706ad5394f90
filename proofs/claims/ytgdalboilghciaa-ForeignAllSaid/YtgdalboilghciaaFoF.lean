/- Layer 8: a seat; the rounds of one that is heard often. The conditions stand in the specifications. -/
import Derived.Test.YtgdalboilghciaaFoE
import Derived.Test.YtgdalboilghciaaRxC
set_option linter.unusedSimpArgs false
set_option linter.unusedVariables false
set_option linter.unnecessarySimpa false
set_option linter.unusedSectionVars false
set_option maxRecDepth 100000
set_option linter.unusedSimpArgs false
set_option linter.unusedVariables false
namespace Go.Proofs.Ytgdalboilghciaa
open Go.Rx
/-- Who was heard often, where at most one was heard. -/
def q1R (es : TabE) (win now : Int) : Tree Res := match es with
  | [] => .leaf ⟨.sl 2 0 0 32 0 none, noneU 0, [.rows stK []]⟩
  | [(p, e)] => .need (decide (0 ≤ e.m) && decide (e.m ≤ 2)) (.ite (cntE e e.m.toNat now win == 2) (.leaf ⟨.sl 3 0 0 32 1 none, noneU 1, [.rows stK [e.s.vs]]⟩) (.leaf ⟨.sl 3 0 0 32 0 none, noneU 1, [.rows stK []]⟩))
  | _ => .fail
def q1S : Rx.Spec := fun a b => match a, tabP b with
  | [.ptr 0 0 0 0, .int .i64 now], some (own, win, es) => q1R es win now
  | _, _ => .fail
abbrev foG (srt : List Prt → List Prt) : List (Nat × Rx.Spec) := [(11, heS srt), (12, q1S)]
abbrev foV (many k : Int) : List V := [.ptr 0 0 0 0, .ptr 1 0 0 0, .ptr 2 0 0 0, .int .i64 many, .int .i64 k]
abbrev foB (own : Ck) (ev win : Int) (s : Ste) (es : TabE) : List Blk := Body.cells (own.vs ++ [.int .i64 ev]) :: Body.cells s.vs :: tabK 2 own win es
noncomputable abbrev foRd (srt : List Prt → List Prt) (vals : List V) (bs : List Blk) : Tree LRes := evRound P (specsOf (foG srt)) (loopsOf []) 105 [3, 5, 7, 58, 59] [6] (loopAt Try.f3 0) vals bs
/-- What is heard of it after k more times. -/
def onE (s : Ste) (ev : Int) : Nat → Ent
  | 0 => newE s (IntKind.i64.wrap (0 * ev))
  | k + 1 => heardE s (IntKind.i64.wrap (((k + 1 : Nat) : Int) * ev)) (onE s ev k)
def rF (s : Ste) (ev : Int) (M : Nat) : Bool → LRes
  | true => ⟨.exit 0, [.any], [none, none, none, none, some (some (.cells (onE s ev (M - 1)).vs))], []⟩
  | false => ⟨.exit 0, [.any], [none, none, none, none, none], []⟩
noncomputable abbrev foLN (srt : List Prt → List Prt) (f : Nat) (vals : List V) (bs : List Blk) : Tree LRes := loopN P (specsOf (foG srt)) (loopsOf []) 105 [3, 5, 7, 58, 59] [6] (loopAt Try.f3 0) f vals bs
def foR (s : Ste) (ev : Int) (M : Nat) : LRes := ⟨.exit 0, [.any], [none, none, none, some (some (.kv [s.snd.v] [.ptr 4 0 0 0]))], [.cells (onE s ev (M - 1)).vs]⟩
def foOk (own' own : Ck) (ev win many : Int) (s : Ste) : Bool := own'.eqB own && (!(decide (ev < 1)) && (!(decide (ev > 1073741824)) && (!(decide (many < 2)) && (!(decide (many > 50)) && (!(s.snd.c.eqB own) && (!(decide (s.st < 0)) && (!(decide (s.st ≥ 255)) && win == IntKind.i64.wrap (4 * ev))))))))
def foF (vals : List V) (bs : List Blk) : Tree LRes := match vals, bs with
  | [.ptr 0 0 0 0, .ptr 1 0 0 0, .ptr 2 0 0 0, .int .i64 many, .int .i64 0], Body.cells xc :: Body.cells sc :: tb => match Ck.p xc, Ste.p sc, tabPk 2 tb with
    | some (own', [.int .i64 ev]), some (s, []), some (own, win, []) => .need (foOk own' own ev win many s) (.leaf (foR s ev many.toNat))
    | _, _, _ => .fail
  | _, _ => .fail
abbrev foL : LSpec := ⟨105, [3, 5, 7, 58, 59], [6], foF⟩
abbrev fwG : List (Nat × Rx.Spec) := [(9, neS), (10, alS), (13, leS)]
def fwT (own : Ck) (ev many : Int) (s : Ste) : Tree Res :=
  .ite (decide (ev < 1)) (.leaf ⟨.tru, [], []⟩) (.ite (decide (ev > 1099511627776)) (.leaf ⟨.tru, [], []⟩) (.ite (decide (many < 2)) (.leaf ⟨.tru, [], []⟩) (.ite (decide (many > 50)) (.leaf ⟨.tru, [], []⟩) (.ite (decide (ev > 1073741824)) (.leaf ⟨.tru, [], []⟩)
    (.ite (s.snd.c.eqB own) (.leaf ⟨.tru, [], []⟩) (.ite (decide (s.st < 0)) (.leaf ⟨.tru, [], []⟩) (.ite (decide (s.st ≥ 255)) (.leaf ⟨.tru, [], []⟩) (.ite (foOk own own ev (IntKind.i64.wrap (4 * ev)) many s) (.leaf ⟨.bool true, [], []⟩) .fail))))))))
/-- A seat: whose table it is, and how far announcements lie from one another. -/
structure Sea where
  own : Ck
  ev : Int
  deriving DecidableEq, Inhabited
def Sea.vs (x : Sea) : List V := x.own.vs ++ [V.int .i64 x.ev]
def Sea.v (x : Sea) : V := .agg x.vs
def Sea.of (v : V) : Option Sea := match v with
  | .agg l => match Ck.p l with
    | some (own, [.int .i64 ev]) => some ⟨own, ev⟩
    | _ => none
  | _ => none
theorem Sea.of_eq {v : V} {x : Sea} (h : Sea.of v = some x) : v = x.v := by
  unfold Sea.of at h
  split at h
  · split at h
    · rename_i e
      cases h
      rw [Ck.p_eq e]
      rfl
    · cases h
  · cases h
def fwS : Rx.Spec := fun a b => match a, b with
  | [q, .int .i64 many, t], [] => match Sea.of q, Ste.of t with
    | some x, some s => .leaf ⟨.bool true, [], []⟩
    | _, _ => .fail
  | _, _ => .fail
end Go.Proofs.Ytgdalboilghciaa
