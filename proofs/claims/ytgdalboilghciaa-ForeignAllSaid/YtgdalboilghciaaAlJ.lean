/- Layer 8: ForeignAll: what a round is told. The conditions stand in the specifications. -/
import Derived.Test.YtgdalboilghciaaAlI
import Derived.Test.YtgdalboilghciaaAlH
import Derived.Test.YtgdalboilghciaaRxD
set_option linter.unusedSimpArgs false
set_option linter.unusedVariables false
set_option linter.unnecessarySimpa false
set_option linter.unusedSectionVars false
set_option maxRecDepth 100000
set_option linter.unusedSimpArgs false
set_option linter.unusedVariables false
namespace Go.Proofs.Ytgdalboilghciaa
open Go.Rx
abbrev opK : List K := [.int .i64, .int .i64, .int .i64, .int .i64, .int .i64, .int .i64, .int .i64, .int .u8, .int .u8, .int .u8, .int .u8, .int .u8, .int .u8, .int .u8, .int .u8, .int .i64, .int .u8, .int .u8, .int .u8, .int .u8, .int .u8, .int .u8, .int .u8, .int .u8, .int .i64, .int .u8, .int .u8, .int .u8, .int .u8, .int .u8, .int .u8, .int .u8, .int .u8, .int .i64]
def rowO (r : List V) : Opp := ⟨(V.toInt (r.getD 0 V.any)), (V.toInt (r.getD 1 V.any)), ⟨(V.toInt (r.getD 2 V.any)), (V.toInt (r.getD 3 V.any)), ⟨(V.toInt (r.getD 4 V.any)), (V.toInt (r.getD 5 V.any)), (V.toInt (r.getD 6 V.any))⟩, ⟨(V.toInt (r.getD 7 V.any)), (V.toInt (r.getD 8 V.any)), (V.toInt (r.getD 9 V.any)), (V.toInt (r.getD 10 V.any)), (V.toInt (r.getD 11 V.any)), (V.toInt (r.getD 12 V.any)), (V.toInt (r.getD 13 V.any)), (V.toInt (r.getD 14 V.any))⟩, (V.toInt (r.getD 15 V.any)), ⟨⟨(V.toInt (r.getD 16 V.any)), (V.toInt (r.getD 17 V.any)), (V.toInt (r.getD 18 V.any)), (V.toInt (r.getD 19 V.any)), (V.toInt (r.getD 20 V.any)), (V.toInt (r.getD 21 V.any)), (V.toInt (r.getD 22 V.any)), (V.toInt (r.getD 23 V.any))⟩, (V.toInt (r.getD 24 V.any))⟩, ⟨⟨(V.toInt (r.getD 25 V.any)), (V.toInt (r.getD 26 V.any)), (V.toInt (r.getD 27 V.any)), (V.toInt (r.getD 28 V.any)), (V.toInt (r.getD 29 V.any)), (V.toInt (r.getD 30 V.any)), (V.toInt (r.getD 31 V.any)), (V.toInt (r.getD 32 V.any))⟩, (V.toInt (r.getD 33 V.any))⟩⟩⟩
theorem rowO_vs (o : Opp) : rowO o.vs = o := rfl
def quRes (n : Nat) (F : List Ste) : Res := ⟨.sl (n + 2) 0 0 32 F.length none, noneU n, [.rows stK (F.map Ste.vs)]⟩
/-- Where the entries lie; how many blocks there are. -/
def afP : Nat → Nat
  | 0 => 4
  | _ + 1 => 5
def afN : Nat → Nat
  | 0 => 4
  | n + 1 => 5 + (n + 1) + (n + 1)
abbrev afV (now : Int) (n : Nat) (i : Int) : List V := [.int .i64 now, .ptr 0 0 0 0, .ptr 1 0 0 0, .sl 2 0 0 34 n none, .int .i64 (n : Int), .int .i64 i]
def afB (ev : Int) (own : Ck) (win : Int) (rs : List (List V)) (es : TabE) (rt : RTab) : List Blk :=
  tabC 3 own win :: Body.cells (own.vs ++ [.int .i64 ev, outL 4 (idsF (5 + es.length) rt)]) :: Body.rows opK rs :: Body.kv (es.map fun x => x.1.v) (ptrsF (afP es.length) es.length) :: (outB (idsF (5 + es.length) rt) ++ (es.map (fun x => Body.cells x.2.vs) ++ tsB rt))
/-- What is written of the reference's table. -/
def RUp.idn : Up → Nat
  | .app _ _ => 1
  | .evi _ _ _ => 1
  | _ => 0
def RUp.lst (n : Nat) (u : Up) (rt : RTab) : RUp → List (RefE × Nat)
  | .keep => idsF (5 + n) rt
  | .ins k j e => (match k with | none => idsF (5 + n) rt | some k => (idsF (5 + n) rt).eraseIdx k).insertIdx j (e, afN n + 1 + RUp.idn u)
  | .drop j => (idsF (5 + n) rt).eraseIdx j
  | .clear => []
def RUp.at (n : Nat) : RUp → Nat
  | .keep => 4
  | _ => afN n
def RUp.newL (n : Nat) (u : Up) (rt : RTab) : RUp → List Blk
  | .keep => []
  | r => outB (r.lst n u rt)
def RUp.newI : RUp → List Blk
  | .ins _ _ e => [.ints .i64 e.ts]
  | _ => []
def Up.kvw (es : TabE) : Up → Option (Option Blk)
  | .same => some (some (.kv (keysB es) (ptrsF (afP es.length) es.length)))
  | .app p e => some (some (.kv (keysB es ++ [p.v]) (ptrsF (afP es.length) es.length ++ [.ptr (afN es.length + 1) 0 0 0])))
  | .evi i p e => some (some (.kv ((keysB es).eraseIdx i ++ [p.v]) ((ptrsF (afP es.length) es.length).eraseIdx i ++ [.ptr (afN es.length + 1) 0 0 0])))
  | .drop i => some (some (.kv ((keysB es).eraseIdx i) ((ptrsF (afP es.length) es.length).eraseIdx i)))
  | .clear => some (some (.kv [] []))
  | _ => none
def Up.enw (n : Nat) : Up → List (Option (Option Blk))
  | .set i e => (List.replicate n none).set i (some (some (.cells e.vs)))
  | _ => List.replicate n none
def afU (ev : Int) (own : Ck) (es : TabE) (rt : RTab) (u : Up) (r : RUp) : List (Option (Option Blk)) :=
  none :: some (some (.cells (own.vs ++ [.int .i64 ev, outL (r.at es.length) (r.lst es.length u rt)]))) :: none :: u.kvw es :: (match es with | [] => [] | _ :: _ => none :: (u.enw es.length ++ List.replicate es.length none))
def afW (es : TabE) (rt : RTab) (u : Up) (r : RUp) : List Blk := r.newL es.length u rt ++ (u.news ++ r.newI)
def afL (now : Int) (n : Nat) (i : Int) (ev : Int) (own : Ck) (es : TabE) (rt : RTab) (u : Up) (r : RUp) : LRes := ⟨.nrm, afV now n (IntKind.i64.wrap (i + 1)), afU ev own es rt u r, afW es rt u r⟩
def afF (ev : Int) (own : Ck) (es : TabE) (rt : RTab) (u : Up) (r : RUp) : LRes := ⟨.ret, [.fls], afU ev own es rt u r, afW es rt u r⟩
def afE (n : Nat) : LRes := ⟨.exit 0, [.any], List.replicate (afN n) none, []⟩
noncomputable abbrev afG (a0 : List V) (b0 : List Blk) (r0 : Res) (a1 : List V) (b1 : List Blk) (r1 : Res) (a2 : List V) (b2 : List Blk) (r2 : Res) (a3 : List V) (b3 : List Blk) (r3 : Res) (a4 : List V) (b4 : List Blk) (r4 : Res) (a5 : List V) (b5 : List Blk) (r5 : Res) : List (Nat × Rx.Spec) :=
  [(16, orS a0 b0 r0), (14, orS a1 b1 r1), (17, orS a2 b2 r2), (15, fFn P (specsOf []) (loopsOf []) Try.f15), (12, orS a3 b3 r3), (19, orS a4 b4 r4), (18, orS a5 b5 r5)]
abbrev smA (n : Nat) : List V := [.sl 0 0 0 32 n none, .sl 1 0 0 32 n none]
abbrev smB (F : List Ste) : List Blk := [.rows stK (F.map Ste.vs), .rows stK (F.map Ste.vs)]
/-- The calls of a round, answered so. -/
noncomputable abbrev afGs (ev : Int) (own : Ck) (win : Int) (o : Opp) (t m : Int) (F : List Ste) (es : TabE) (rt : RTab) (u : Up) (r : RUp) : List (Nat × Rx.Spec) :=
  afG [refV own ev rt, o.v] (refB rt) (r.res own ev rt t) [.ptr 0 0 0 0, o.v] (tabB own win es) (u.res es t) [.ptr 0 0 0 0, stV own ev (r.tab rt)] (stB own win (u.tab es) (r.tab rt)) ⟨.tru, noneL (stB own win (u.tab es) (r.tab rt)), []⟩
    [.ptr 0 0 0 0, .int .i64 m] (tabB own win (u.tab es)) (quRes (u.tab es).length F) [refV own ev (r.tab rt), .int .i64 m] (refB (r.tab rt)) (rqR (r.tab rt) F) (smA F.length) (smB F) ⟨.tru, [none, none], []⟩
noncomputable abbrev afRd (G : List (Nat × Rx.Spec)) (vals : List V) (bs : List Blk) : Tree LRes := evRound P (specsOf G) (loopsOf []) 119 [2, 7, 9, 68, 69, 70] [6] (loopAt Try.f7 0) vals bs
noncomputable def afT (ev : Int) (own : Ck) (win : Int) (x o : Opp) (t m : Int) (F : List Ste) (es : TabE) (rt : RTab) (u : Up) (r : RUp) (L R : LRes) : Tree LRes :=
  .ite (eqAB [refV own ev rt, x.v] [refV own ev rt, o.v] (refB rt) (refB rt)) (.ite (eqAB [.ptr 0 0 0 0, x.v] [.ptr 0 0 0 0, o.v] (tabB own win es) (tabB own win es)) (.ite (t != t) (.leaf R)
    (.ite (eqAB [.ptr 0 0 0 0, stV own ev (r.tab rt)] [.ptr 0 0 0 0, stV own ev (r.tab rt)] (stB own win (u.tab es) (r.tab rt)) (stB own win (u.tab es) (r.tab rt)))
      (.ite (decide (x.now < -4611686018427387904)) (.leaf L) (.ite (!decide (x.now > 4611686018427387904))
        (.ite (eqAB [.ptr 0 0 0 0, .int .i64 x.now] [.ptr 0 0 0 0, .int .i64 m] (tabB own win (u.tab es)) (tabB own win (u.tab es)))
          (.ite (eqAB [refV own ev (r.tab rt), .int .i64 x.now] [refV own ev (r.tab rt), .int .i64 m] (refB (r.tab rt)) (refB (r.tab rt)))
            (.ite (eqAB (smA F.length) (smA F.length) (smB F) (smB F)) (.leaf L) .fail) .fail) .fail) (.leaf L))) .fail)) .fail) .fail
noncomputable def afX (n : Nat) (i : Int) (rs : List (List V)) (T : Tree LRes) (E : LRes) : Tree LRes :=
  .ite (decide (i < (n : Int))) (.ite (decide (0 ≤ i) && decide (i < (n : Int))) (.ite (decide (0 + i.toNat < rs.length)) T .fail) .fail) (.leaf E)
def AfFacts (ev : Int) (own : Ck) (win : Int) (rs : List (List V)) (n : Nat) (now i : Int) (o : Opp) (t m : Int) (F : List Ste) (es : TabE) (rt : RTab) (u : Up) (r : RUp) : Prop :=
  Tree.den (afRd (afGs ev own win o t m F es rt u r) (afV now n i) (afB ev own win rs es rt)) = Tree.den (afX n i rs (afT ev own win (rowO (rs.getD (0 + i.toNat) [])) o t m F es rt u r (afL now n i ev own es rt u r) (afF ev own es rt u r)) (afE es.length)) ∧
  seqOk (afB ev own win rs es rt) (afL now n i ev own es rt u r) = true ∧ seqVals (afB ev own win rs es rt) (afL now n i ev own es rt u r) = afV now n (IntKind.i64.wrap (i + 1)) ∧
  seqBlks (afB ev own win rs es rt) (afL now n i ev own es rt u r) = afB ev own win rs (u.tab es) (r.tab rt) ∧
  [0, 2].all (keptB (afL now n i ev own es rt u r).upd) = true ∧ (List.range 4).all (fun b => (seqLs (afB ev own win rs es rt) (afL now n i ev own es rt u r))[b]? == some b) = true ∧ (afL now n i ev own es rt u r).upd.all notGone = true
end Go.Proofs.Ytgdalboilghciaa
