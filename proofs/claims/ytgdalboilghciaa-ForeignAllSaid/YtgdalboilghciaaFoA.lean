/- Layer 8: the order of ports, and sorting a few of them. The conditions stand in the specifications. -/
import Derived.Test.YtgdalboilghciaaRxC
import Derived.KernelRfl
import Derived.Test.YtgdalboilghciaaChecked
import Derived.Test.YtgdalboilghciaaRxB
set_option linter.unusedSimpArgs false
set_option linter.unusedVariables false
set_option linter.unnecessarySimpa false
set_option linter.unusedSectionVars false
set_option maxRecDepth 100000
set_option linter.unusedSimpArgs false
set_option linter.unusedVariables false
namespace Go.Proofs.Ytgdalboilghciaa
open Go.Rx
noncomputable abbrev P : Program := Try.prog
theorem hm : P.follows .mixedOrders = true := Try.checked.mixed
instance glob : Glob := ⟨0, fun _ => True, fun _ _ _ h => h⟩
/-- What is heard of a sender. -/
structure Ent where
  s : Ste
  t0 : Int
  t1 : Int
  m : Int
  deriving DecidableEq, Inhabited
def Ent.vs (x : Ent) : List V := (x.s).vs ++ ([V.int .i64 x.t0] ++ ([V.int .i64 x.t1] ++ [V.int .i64 x.m]))
def Ent.of (l0 : List V) : Option Ent :=
  match Ste.p l0 with
  | none => none
  | some (s, l1) => match pI l1 with
    | none => none
    | some (t0, l2) => match pI l2 with
      | none => none
      | some (t1, l3) => match pI l3 with
        | some (m, []) => some ⟨s, t0, t1, m⟩
        | _ => none
theorem Ent.of_eq {l : List V} {x : Ent} (h : Ent.of l = some x) : l = x.vs := by
  unfold Ent.of at h
  split at h
  · cases h
  rename_i s l1 e1
  split at h
  · cases h
  rename_i t0 l2 e2
  split at h
  · cases h
  rename_i t1 l3 e3
  split at h
  · rename_i m e4
    cases h
    rw [Ste.p_eq e1, pI_eq e2, pI_eq e3, pI_eq e4]
    rfl
  · cases h
/-- Pointers to the blocks from k on. -/
def ptrsF (k : Nat) : Nat → List V
  | 0 => []
  | n + 1 => .ptr k 0 0 0 :: ptrsF (k + 1) n
abbrev TabE := List (Prt × Ent)
/-- A table's blocks. -/
def tabB (own : Ck) (win : Int) (es : TabE) : List Blk :=
  Body.cells (own.vs ++ [.int .i64 win, .mapr 1]) :: Body.kv (es.map fun x => x.1.v) (ptrsF 2 es.length) :: es.map fun x => Body.cells x.2.vs
def isPtrs : Nat → List V → Bool
  | _, [] => true
  | k, .ptr b i sz o :: r => Nat.beq b k && Nat.beq i 0 && Nat.beq sz 0 && Nat.beq o 0 && isPtrs (k + 1) r
  | _, _ => false
theorem isPtrs_eq : ∀ (l : List V) (k : Nat), isPtrs k l = true → l = ptrsF k l.length := by
  intro l
  induction l with
  | nil => intro k h; rfl
  | cons v r ih =>
    intro k h
    cases v with
    | ptr b i sz o =>
      simp only [isPtrs, Bool.and_eq_true, Nat.beq_eq] at h
      obtain ⟨⟨⟨⟨rfl, rfl⟩, rfl⟩, rfl⟩, h⟩ := h
      rw [List.length_cons]
      show _ = V.ptr b 0 0 0 :: ptrsF (b + 1) r.length
      rw [← ih (b + 1) h]
    | _ => simp [isPtrs] at h
def entsP : List V → List Blk → Option TabE
  | [], [] => some []
  | k :: ks, Body.cells c :: bs => match Prt.of k, Ent.of c, entsP ks bs with
    | some p, some e, some r => some ((p, e) :: r)
    | _, _, _ => none
  | _, _ => none
theorem entsP_eq : ∀ (ks : List V) (bs : List Blk) (es : TabE), entsP ks bs = some es → ks = es.map (fun x => x.1.v) ∧ bs = es.map fun x => Body.cells x.2.vs := by
  intro ks
  induction ks with
  | nil =>
    intro bs es h
    cases bs with
    | nil => simp only [entsP, Option.some.injEq] at h; subst h; exact ⟨rfl, rfl⟩
    | cons b bs => cases b <;> simp [entsP] at h
  | cons k ks ih =>
    intro bs es h
    cases bs with
    | nil => simp [entsP] at h
    | cons b bs =>
      cases b with
      | cells c =>
        simp only [entsP] at h
        split at h
        · rename_i h1 h2 h3
          cases h
          obtain ⟨e1, e2⟩ := ih _ _ h3
          rw [Prt.of_eq h1, Ent.of_eq h2, e1, e2]
          exact ⟨rfl, rfl⟩
        · cases h
      | _ => simp [entsP] at h
def tabP : List Blk → Option (Ck × Int × TabE)
  | Body.cells c :: Body.kv ks vs :: bs => match Ck.p c with
    | some (own, [.int .i64 win, .mapr 1]) => match isPtrs 2 vs && Nat.beq vs.length ks.length, entsP ks bs with
      | true, some es => some (own, win, es)
      | _, _ => none
    | _ => none
  | _ => none
theorem tabP_eq {bs : List Blk} {own : Ck} {win : Int} {es : TabE} (h : tabP bs = some (own, win, es)) : bs = tabB own win es := by
  unfold tabP at h
  split at h
  · rename_i c ks vs bs
    split at h
    · rename_i o w hc
      split at h
      · rename_i l h1 h2
        cases h
        simp only [Bool.and_eq_true, Nat.beq_eq] at h1
        obtain ⟨e1, e2⟩ := entsP_eq _ _ _ h2
        have hl : vs.length = es.length := by rw [h1.2, e1, List.length_map]
        rw [isPtrs_eq _ _ h1.1, hl, Ck.p_eq hc, e1, e2]
        rfl
      · cases h
    · cases h
  · cases h
end Go.Proofs.Ytgdalboilghciaa

set_option maxRecDepth 100000
set_option linter.unusedSimpArgs false
set_option linter.unusedVariables false
namespace Go.Proofs.Ytgdalboilghciaa
open Go.Rx
def cmpI (a b : Int) : Int := if a < b then -1 else if b < a then 1 else 0
noncomputable abbrev ciG : List (Nat × Rx.Spec) := [(49, fFn P (specsOf []) (loopsOf []) Try.f49), (61, fFn P (specsOf []) (loopsOf []) Try.f61)]
theorem ciG_ok : GammaOK P ciG := .cons (inl_ok (GammaOK.nil P) hm Try.func49 (by kernel_rfl) (LoopsOK.nil (by kernel_rfl))) (.cons (inl_ok (GammaOK.nil P) hm Try.func61 (by kernel_rfl) (LoopsOK.nil (by kernel_rfl))) (.nil P))
def ciS : Rx.Spec := fun a b => match a, b with
  | [.int .i64 x, .int .i64 y], [] => .leaf ⟨.int .i64 (cmpI x y), [], []⟩
  | _, _ => .fail
theorem ci_ok : SpecOK P 43 ciS := by
  refine specOK_fast ciG_ok hm (Λ := loopsOf []) Try.func43 (by kernel_rfl) (LoopsOK.nil (by kernel_rfl)) ?_
  intro args bs r h
  unfold ciS at h
  split at h
  · rename_i a b
    rw [denLf] at h; cases h
    rw [show (fFn P (specsOf ciG) (loopsOf []) Try.f43 [.int .i64 a, .int .i64 b] []).denN = Tree.denN (Tree.ite (a != a) (Tree.ite (b != b) (Tree.leaf { v := V.int IntKind.i64 0, upd := [], new := [] }) (Tree.leaf { v := V.int IntKind.i64 (-1), upd := [], new := [] })) (Tree.ite (b != b) (Tree.leaf { v := V.int IntKind.i64 1, upd := [], new := [] }) (Tree.ite (decide (a < b)) (Tree.leaf { v := V.int IntKind.i64 (-1), upd := [], new := [] }) (Tree.ite (decide (a > b)) (Tree.leaf { v := V.int IntKind.i64 1, upd := [], new := [] }) (Tree.leaf { v := V.int IntKind.i64 0, upd := [], new := [] }))))) from by kernel_rfl]
    simp only [denN_ite, denN_leaf, denN_fail]
    unfold cmpI
    by_cases h1 : a < b
    · simp only [h1, decide_true, if_true, bne_self_eq_false, Bool.false_eq_true, if_false]
    · by_cases h2 : b < a
      · simp only [h1, h2, bne_self_eq_false, gt_iff_lt, decide_true, decide_false, if_true, if_false, Bool.false_eq_true]
      · simp only [h1, h2, bne_self_eq_false, gt_iff_lt, decide_true, decide_false, if_true, if_false, Bool.false_eq_true]
  · simp [den_fail] at h
def cbS : Rx.Spec := fun a b => match a, b with
  | [.int .u8 x, .int .u8 y], [] => .leaf ⟨.int .i64 (cmpI x y), [], []⟩
  | _, _ => .fail
theorem cb_ok : SpecOK P 48 cbS := by
  refine specOK_fast ciG_ok hm (Λ := loopsOf []) Try.func48 (by kernel_rfl) (LoopsOK.nil (by kernel_rfl)) ?_
  intro args bs r h
  unfold cbS at h
  split at h
  · rename_i a b
    rw [denLf] at h; cases h
    rw [show (fFn P (specsOf ciG) (loopsOf []) Try.f48 [.int .u8 a, .int .u8 b] []).denN = Tree.denN (Tree.ite (a != a) (Tree.ite (b != b) (Tree.leaf { v := V.int IntKind.i64 0, upd := [], new := [] }) (Tree.leaf { v := V.int IntKind.i64 (-1), upd := [], new := [] })) (Tree.ite (b != b) (Tree.leaf { v := V.int IntKind.i64 1, upd := [], new := [] }) (Tree.ite (decide (a < b)) (Tree.leaf { v := V.int IntKind.i64 (-1), upd := [], new := [] }) (Tree.ite (decide (a > b)) (Tree.leaf { v := V.int IntKind.i64 1, upd := [], new := [] }) (Tree.leaf { v := V.int IntKind.i64 0, upd := [], new := [] }))))) from by kernel_rfl]
    simp only [denN_ite, denN_leaf, denN_fail]
    unfold cmpI
    by_cases h1 : a < b
    · simp only [h1, decide_true, if_true, bne_self_eq_false, Bool.false_eq_true, if_false]
    · by_cases h2 : b < a
      · simp only [h1, h2, bne_self_eq_false, gt_iff_lt, decide_true, decide_false, if_true, if_false, Bool.false_eq_true]
      · simp only [h1, h2, bne_self_eq_false, gt_iff_lt, decide_true, decide_false, if_true, if_false, Bool.false_eq_true]
  · simp [den_fail] at h
abbrev coG : List (Nat × Rx.Spec) := [(48, cbS)]
theorem coG_ok : GammaOK P coG := .cons cb_ok (.nil P)
noncomputable abbrev coL : LSpec := fUnroll P (specsOf coG) (loopsOf []) Try.f42 (loopAt Try.f42 0) 9
theorem co_loop : LoopOK P (loopAt Try.f42 0) coL := fUnroll_ok coG_ok hm (Λ := loopsOf []) (LoopsOK.nil (by kernel_rfl)) _ _
/-- Which of two clocks is first. -/
def cmpC (a b : Ck) : Int := if (a.b0 != b.b0) = true then cmpI a.b0 b.b0 else if (a.b1 != b.b1) = true then cmpI a.b1 b.b1 else if (a.b2 != b.b2) = true then cmpI a.b2 b.b2 else if (a.b3 != b.b3) = true then cmpI a.b3 b.b3 else
  if (a.b4 != b.b4) = true then cmpI a.b4 b.b4 else if (a.b5 != b.b5) = true then cmpI a.b5 b.b5 else if (a.b6 != b.b6) = true then cmpI a.b6 b.b6 else if (a.b7 != b.b7) = true then cmpI a.b7 b.b7 else 0
def coS : Rx.Spec := fun a b => match a, b with
  | [.agg [.int .u8 x0, .int .u8 x1, .int .u8 x2, .int .u8 x3, .int .u8 x4, .int .u8 x5, .int .u8 x6, .int .u8 x7], .agg [.int .u8 y0, .int .u8 y1, .int .u8 y2, .int .u8 y3, .int .u8 y4, .int .u8 y5, .int .u8 y6, .int .u8 y7]], [] => .leaf ⟨.int .i64 (cmpC ⟨x0, x1, x2, x3, x4, x5, x6, x7⟩ ⟨y0, y1, y2, y3, y4, y5, y6, y7⟩), [], []⟩
  | _, _ => .fail
theorem co_ok : SpecOK P 42 coS := by
  refine specOK_fast coG_ok hm (Λ := loopsOf [(2, coL)]) Try.func42 (by kernel_rfl) (LoopsOK.one (by kernel_rfl) co_loop) ?_
  intro args bs r h
  unfold coS at h
  split at h
  · rename_i x0 x1 x2 x3 x4 x5 x6 x7 y0 y1 y2 y3 y4 y5 y6 y7
    rw [denLf] at h; cases h
    rw [show (fFn P (specsOf coG) (loopsOf [(2, coL)]) Try.f42 [.agg [.int .u8 x0, .int .u8 x1, .int .u8 x2, .int .u8 x3, .int .u8 x4, .int .u8 x5, .int .u8 x6, .int .u8 x7], .agg [.int .u8 y0, .int .u8 y1, .int .u8 y2, .int .u8 y3, .int .u8 y4, .int .u8 y5, .int .u8 y6, .int .u8 y7]] []).denN = Tree.denN (Tree.ite ([x0, x1, x2, x3, x4, x5, x6, x7].getD 0 0 != [y0, y1, y2, y3, y4, y5, y6, y7].getD 0 0) (Tree.leaf { v := V.int IntKind.i64 (cmpI ([x0, x1, x2, x3, x4, x5, x6, x7].getD 0 0) ([y0, y1, y2, y3, y4, y5, y6, y7].getD 0 0)), upd := [], new := [] }) (Tree.ite ([x0, x1, x2, x3, x4, x5, x6, x7].getD 1 0 != [y0, y1, y2, y3, y4, y5, y6, y7].getD 1 0) (Tree.leaf { v := V.int IntKind.i64 (cmpI ([x0, x1, x2, x3, x4, x5, x6, x7].getD 1 0) ([y0, y1, y2, y3, y4, y5, y6, y7].getD 1 0)), upd := [], new := [] }) (Tree.ite ([x0, x1, x2, x3, x4, x5, x6, x7].getD 2 0 != [y0, y1, y2, y3, y4, y5, y6, y7].getD 2 0) (Tree.leaf { v := V.int IntKind.i64 (cmpI ([x0, x1, x2, x3, x4, x5, x6, x7].getD 2 0) ([y0, y1, y2, y3, y4, y5, y6, y7].getD 2 0)), upd := [], new := [] }) (Tree.ite ([x0, x1, x2, x3, x4, x5, x6, x7].getD 3 0 != [y0, y1, y2, y3, y4, y5, y6, y7].getD 3 0) (Tree.leaf { v := V.int IntKind.i64 (cmpI ([x0, x1, x2, x3, x4, x5, x6, x7].getD 3 0) ([y0, y1, y2, y3, y4, y5, y6, y7].getD 3 0)), upd := [], new := [] }) (Tree.ite ([x0, x1, x2, x3, x4, x5, x6, x7].getD 4 0 != [y0, y1, y2, y3, y4, y5, y6, y7].getD 4 0) (Tree.leaf { v := V.int IntKind.i64 (cmpI ([x0, x1, x2, x3, x4, x5, x6, x7].getD 4 0) ([y0, y1, y2, y3, y4, y5, y6, y7].getD 4 0)), upd := [], new := [] }) (Tree.ite ([x0, x1, x2, x3, x4, x5, x6, x7].getD 5 0 != [y0, y1, y2, y3, y4, y5, y6, y7].getD 5 0) (Tree.leaf { v := V.int IntKind.i64 (cmpI ([x0, x1, x2, x3, x4, x5, x6, x7].getD 5 0) ([y0, y1, y2, y3, y4, y5, y6, y7].getD 5 0)), upd := [], new := [] }) (Tree.ite ([x0, x1, x2, x3, x4, x5, x6, x7].getD 6 0 != [y0, y1, y2, y3, y4, y5, y6, y7].getD 6 0) (Tree.leaf { v := V.int IntKind.i64 (cmpI ([x0, x1, x2, x3, x4, x5, x6, x7].getD 6 0) ([y0, y1, y2, y3, y4, y5, y6, y7].getD 6 0)), upd := [], new := [] }) (Tree.ite ([x0, x1, x2, x3, x4, x5, x6, x7].getD 7 0 != [y0, y1, y2, y3, y4, y5, y6, y7].getD 7 0) (Tree.leaf { v := V.int IntKind.i64 (cmpI ([x0, x1, x2, x3, x4, x5, x6, x7].getD 7 0) ([y0, y1, y2, y3, y4, y5, y6, y7].getD 7 0)), upd := [], new := [] }) (Tree.leaf { v := V.int IntKind.i64 0, upd := [], new := [] }))))))))) from by kernel_rfl]
    simp only [denN_ite, denN_leaf, denN_fail]
    unfold cmpC
    dsimp only
    by_cases h0 : (x0 != y0) = true
    · rw [if_pos h0]; exact if_pos h0
    rw [if_neg h0]; refine (if_neg h0).trans ?_
    by_cases h1 : (x1 != y1) = true
    · rw [if_pos h1]; exact if_pos h1
    rw [if_neg h1]; refine (if_neg h1).trans ?_
    by_cases h2 : (x2 != y2) = true
    · rw [if_pos h2]; exact if_pos h2
    rw [if_neg h2]; refine (if_neg h2).trans ?_
    by_cases h3 : (x3 != y3) = true
    · rw [if_pos h3]; exact if_pos h3
    rw [if_neg h3]; refine (if_neg h3).trans ?_
    by_cases h4 : (x4 != y4) = true
    · rw [if_pos h4]; exact if_pos h4
    rw [if_neg h4]; refine (if_neg h4).trans ?_
    by_cases h5 : (x5 != y5) = true
    · rw [if_pos h5]; exact if_pos h5
    rw [if_neg h5]; refine (if_neg h5).trans ?_
    by_cases h6 : (x6 != y6) = true
    · rw [if_pos h6]; exact if_pos h6
    rw [if_neg h6]; refine (if_neg h6).trans ?_
    by_cases h7 : (x7 != y7) = true
    · rw [if_pos h7]; exact if_pos h7
    rw [if_neg h7]; refine (if_neg h7).trans ?_
    rfl
  · simp [den_fail] at h
noncomputable abbrev orL : LSpec := fUnroll P (specsOf []) (loopsOf []) Try.f41 (loopAt Try.f41 0) 3
theorem or_loop : LoopOK P (loopAt Try.f41 0) orL := fUnroll_ok (GammaOK.nil P) hm (Λ := loopsOf []) (LoopsOK.nil (by kernel_rfl)) _ _
noncomputable abbrev poG : List (Nat × Rx.Spec) := [(43, ciS), (42, coS), (41, fFn P (specsOf []) (loopsOf [(3, orL)]) Try.f41)]
theorem poG_ok : GammaOK P poG := .cons ci_ok (.cons co_ok (.cons (inl_ok (GammaOK.nil P) hm Try.func41 (by kernel_rfl) (LoopsOK.one (by kernel_rfl) or_loop)) (.nil P)))
def cmpP (p q : Prt) : Int := if (cmpC p.c q.c != 0) = true then cmpC p.c q.c else cmpI p.n q.n
def poS : Rx.Spec := fun a b => match a, b with
  | [.agg [.int .u8 x0, .int .u8 x1, .int .u8 x2, .int .u8 x3, .int .u8 x4, .int .u8 x5, .int .u8 x6, .int .u8 x7, .int .i64 x8], .agg [.int .u8 y0, .int .u8 y1, .int .u8 y2, .int .u8 y3, .int .u8 y4, .int .u8 y5, .int .u8 y6, .int .u8 y7, .int .i64 y8]], [] => .leaf ⟨.int .i64 (cmpP ⟨⟨x0, x1, x2, x3, x4, x5, x6, x7⟩, x8⟩ ⟨⟨y0, y1, y2, y3, y4, y5, y6, y7⟩, y8⟩), [], []⟩
  | _, _ => .fail
theorem po_ok : SpecOK P 35 poS := by
  refine specOK_fast poG_ok hm (Λ := loopsOf []) Try.func35 (by kernel_rfl) (LoopsOK.nil (by kernel_rfl)) ?_
  intro args bs r h
  unfold poS at h
  split at h
  · rename_i x0 x1 x2 x3 x4 x5 x6 x7 x8 y0 y1 y2 y3 y4 y5 y6 y7 y8
    rw [denLf] at h; cases h
    rw [show (fFn P (specsOf poG) (loopsOf []) Try.f35 [.agg [.int .u8 x0, .int .u8 x1, .int .u8 x2, .int .u8 x3, .int .u8 x4, .int .u8 x5, .int .u8 x6, .int .u8 x7, .int .i64 x8], .agg [.int .u8 y0, .int .u8 y1, .int .u8 y2, .int .u8 y3, .int .u8 y4, .int .u8 y5, .int .u8 y6, .int .u8 y7, .int .i64 y8]] []).denN = Tree.denN (Tree.ite ([cmpC { b0 := x0, b1 := x1, b2 := x2, b3 := x3, b4 := x4, b5 := x5, b6 := x6, b7 := x7 } { b0 := y0, b1 := y1, b2 := y2, b3 := y3, b4 := y4, b5 := y5, b6 := y6, b7 := y7 }, cmpI x8 y8].getD 0 0 != 0) (Tree.leaf { v := V.int IntKind.i64 ([cmpC { b0 := x0, b1 := x1, b2 := x2, b3 := x3, b4 := x4, b5 := x5, b6 := x6, b7 := x7 } { b0 := y0, b1 := y1, b2 := y2, b3 := y3, b4 := y4, b5 := y5, b6 := y6, b7 := y7 }, cmpI x8 y8].getD 0 0), upd := [], new := [] }) (Tree.ite ([cmpC { b0 := x0, b1 := x1, b2 := x2, b3 := x3, b4 := x4, b5 := x5, b6 := x6, b7 := x7 } { b0 := y0, b1 := y1, b2 := y2, b3 := y3, b4 := y4, b5 := y5, b6 := y6, b7 := y7 }, cmpI x8 y8].getD 1 0 != 0) (Tree.leaf { v := V.int IntKind.i64 ([cmpC { b0 := x0, b1 := x1, b2 := x2, b3 := x3, b4 := x4, b5 := x5, b6 := x6, b7 := x7 } { b0 := y0, b1 := y1, b2 := y2, b3 := y3, b4 := y4, b5 := y5, b6 := y6, b7 := y7 }, cmpI x8 y8].getD 1 0), upd := [], new := [] }) (Tree.leaf { v := V.int IntKind.i64 0, upd := [], new := [] }))) from by kernel_rfl]
    simp only [denN_ite, denN_leaf, denN_fail]
    unfold cmpP
    generalize cmpC _ _ = c
    generalize cmpI _ _ = d
    by_cases h1 : (c != 0) = true
    · rw [if_pos (show ([c, d].getD 0 0 != 0) = true from h1), if_pos h1]; rfl
    · rw [if_neg (show ¬ ([c, d].getD 0 0 != 0) = true from h1), if_neg h1]
      by_cases h2 : (d != 0) = true
      · rw [if_pos (show ([c, d].getD 1 0 != 0) = true from h2)]; rfl
      · rw [if_neg (show ¬ ([c, d].getD 1 0 != 0) = true from h2)]
        have : d = 0 := by simpa using h2
        rw [this]
  · simp [den_fail] at h
end Go.Proofs.Ytgdalboilghciaa

set_option maxRecDepth 100000
set_option linter.unusedSimpArgs false
set_option linter.unusedVariables false
namespace Go.Proofs.Ytgdalboilghciaa
open Go.Rx
abbrev pK : List K := [.int .u8, .int .u8, .int .u8, .int .u8, .int .u8, .int .u8, .int .u8, .int .u8, .int .i64]
abbrev isG : List (Nat × Rx.Spec) := [(35, poS)]
theorem isG_ok : GammaOK P isG := .cons po_ok (.nil P)
theorem si_round (n : Nat) (m i j : Int) (rs : List (List V)) : (evRound P (specsOf isG) (loopsOf []) 53 [0, 1, 2, 3, 8, 9] [] (loopAt Try.f51 1) [.sl 0 0 0 9 n none, .int .i64 0, .int .i64 m, .fn (.func 35) [] [], .int .i64 i, .int .i64 j] [.rows pK rs]).den = Tree.den (Tree.ite (decide (j > 0)) (Tree.ite (decide (0 ≤ j) && decide (j < (↑n : Int))) (Tree.ite (decide (0 + j.toNat < rs.length)) (Tree.ite (decide (0 ≤ IntKind.i64.wrap (j - 1)) && decide (IntKind.i64.wrap (j - 1) < (↑n : Int))) (Tree.ite (decide (0 + (IntKind.i64.wrap (j - 1)).toNat < rs.length)) (Tree.ite (decide (cmpP { c := { b0 := (V.toInt ((rs.getD (0 + j.toNat) []).getD 0 V.any)), b1 := (V.toInt ((rs.getD (0 + j.toNat) []).getD 1 V.any)), b2 := (V.toInt ((rs.getD (0 + j.toNat) []).getD 2 V.any)), b3 := (V.toInt ((rs.getD (0 + j.toNat) []).getD 3 V.any)), b4 := (V.toInt ((rs.getD (0 + j.toNat) []).getD 4 V.any)), b5 := (V.toInt ((rs.getD (0 + j.toNat) []).getD 5 V.any)), b6 := (V.toInt ((rs.getD (0 + j.toNat) []).getD 6 V.any)), b7 := (V.toInt ((rs.getD (0 + j.toNat) []).getD 7 V.any)) }, n := (V.toInt ((rs.getD (0 + j.toNat) []).getD 8 V.any)) } { c := { b0 := (V.toInt ((rs.getD (0 + (IntKind.i64.wrap (j - 1)).toNat) []).getD 0 V.any)), b1 := (V.toInt ((rs.getD (0 + (IntKind.i64.wrap (j - 1)).toNat) []).getD 1 V.any)), b2 := (V.toInt ((rs.getD (0 + (IntKind.i64.wrap (j - 1)).toNat) []).getD 2 V.any)), b3 := (V.toInt ((rs.getD (0 + (IntKind.i64.wrap (j - 1)).toNat) []).getD 3 V.any)), b4 := (V.toInt ((rs.getD (0 + (IntKind.i64.wrap (j - 1)).toNat) []).getD 4 V.any)), b5 := (V.toInt ((rs.getD (0 + (IntKind.i64.wrap (j - 1)).toNat) []).getD 5 V.any)), b6 := (V.toInt ((rs.getD (0 + (IntKind.i64.wrap (j - 1)).toNat) []).getD 6 V.any)), b7 := (V.toInt ((rs.getD (0 + (IntKind.i64.wrap (j - 1)).toNat) []).getD 7 V.any)) }, n := (V.toInt ((rs.getD (0 + (IntKind.i64.wrap (j - 1)).toNat) []).getD 8 V.any)) } < 0)) (Tree.ite (decide (0 ≤ IntKind.i64.wrap (j - 1)) && decide (IntKind.i64.wrap (j - 1) < (↑n : Int))) (Tree.ite (decide (0 + (IntKind.i64.wrap (j - 1)).toNat < rs.length)) (Tree.ite (decide (0 ≤ j) && decide (j < (↑n : Int))) (Tree.ite (decide (0 + j.toNat < rs.length)) (Tree.ite (decide (0 ≤ j) && decide (j < (↑n : Int))) (Tree.ite (decide (0 + j.toNat < rs.length)) (Tree.ite (decide (0 ≤ IntKind.i64.wrap (j - 1)) && decide (IntKind.i64.wrap (j - 1) < (↑n : Int))) (Tree.ite (decide (0 + (IntKind.i64.wrap (j - 1)).toNat < (rs.set (0 + j.toNat) [V.int IntKind.u8 (V.toInt ((rs.getD (0 + (IntKind.i64.wrap (j - 1)).toNat) []).getD 0 V.any)), V.int IntKind.u8 (V.toInt ((rs.getD (0 + (IntKind.i64.wrap (j - 1)).toNat) []).getD 1 V.any)), V.int IntKind.u8 (V.toInt ((rs.getD (0 + (IntKind.i64.wrap (j - 1)).toNat) []).getD 2 V.any)), V.int IntKind.u8 (V.toInt ((rs.getD (0 + (IntKind.i64.wrap (j - 1)).toNat) []).getD 3 V.any)), V.int IntKind.u8 (V.toInt ((rs.getD (0 + (IntKind.i64.wrap (j - 1)).toNat) []).getD 4 V.any)), V.int IntKind.u8 (V.toInt ((rs.getD (0 + (IntKind.i64.wrap (j - 1)).toNat) []).getD 5 V.any)), V.int IntKind.u8 (V.toInt ((rs.getD (0 + (IntKind.i64.wrap (j - 1)).toNat) []).getD 6 V.any)), V.int IntKind.u8 (V.toInt ((rs.getD (0 + (IntKind.i64.wrap (j - 1)).toNat) []).getD 7 V.any)), V.int IntKind.i64 (V.toInt ((rs.getD (0 + (IntKind.i64.wrap (j - 1)).toNat) []).getD 8 V.any))]).length)) (Tree.leaf { e := Ex.nrm, vs := [V.sl 0 0 0 9 n none, V.int IntKind.i64 0, V.int IntKind.i64 m, V.fn (Fn.func 35) [] [], V.int IntKind.i64 i, V.int IntKind.i64 (IntKind.i64.wrap (j - 1))], upd := [some (some (Body.rows [K.int IntKind.u8, K.int IntKind.u8, K.int IntKind.u8, K.int IntKind.u8, K.int IntKind.u8, K.int IntKind.u8, K.int IntKind.u8, K.int IntKind.u8, K.int IntKind.i64] ((rs.set (0 + j.toNat) [V.int IntKind.u8 (V.toInt ((rs.getD (0 + (IntKind.i64.wrap (j - 1)).toNat) []).getD 0 V.any)), V.int IntKind.u8 (V.toInt ((rs.getD (0 + (IntKind.i64.wrap (j - 1)).toNat) []).getD 1 V.any)), V.int IntKind.u8 (V.toInt ((rs.getD (0 + (IntKind.i64.wrap (j - 1)).toNat) []).getD 2 V.any)), V.int IntKind.u8 (V.toInt ((rs.getD (0 + (IntKind.i64.wrap (j - 1)).toNat) []).getD 3 V.any)), V.int IntKind.u8 (V.toInt ((rs.getD (0 + (IntKind.i64.wrap (j - 1)).toNat) []).getD 4 V.any)), V.int IntKind.u8 (V.toInt ((rs.getD (0 + (IntKind.i64.wrap (j - 1)).toNat) []).getD 5 V.any)), V.int IntKind.u8 (V.toInt ((rs.getD (0 + (IntKind.i64.wrap (j - 1)).toNat) []).getD 6 V.any)), V.int IntKind.u8 (V.toInt ((rs.getD (0 + (IntKind.i64.wrap (j - 1)).toNat) []).getD 7 V.any)), V.int IntKind.i64 (V.toInt ((rs.getD (0 + (IntKind.i64.wrap (j - 1)).toNat) []).getD 8 V.any))]).set (0 + (IntKind.i64.wrap (j - 1)).toNat) [V.int IntKind.u8 (V.toInt ((rs.getD (0 + j.toNat) []).getD 0 V.any)), V.int IntKind.u8 (V.toInt ((rs.getD (0 + j.toNat) []).getD 1 V.any)), V.int IntKind.u8 (V.toInt ((rs.getD (0 + j.toNat) []).getD 2 V.any)), V.int IntKind.u8 (V.toInt ((rs.getD (0 + j.toNat) []).getD 3 V.any)), V.int IntKind.u8 (V.toInt ((rs.getD (0 + j.toNat) []).getD 4 V.any)), V.int IntKind.u8 (V.toInt ((rs.getD (0 + j.toNat) []).getD 5 V.any)), V.int IntKind.u8 (V.toInt ((rs.getD (0 + j.toNat) []).getD 6 V.any)), V.int IntKind.u8 (V.toInt ((rs.getD (0 + j.toNat) []).getD 7 V.any)), V.int IntKind.i64 (V.toInt ((rs.getD (0 + j.toNat) []).getD 8 V.any))])))], new := [] }) Tree.fail) Tree.fail) Tree.fail) Tree.fail) Tree.fail) Tree.fail) Tree.fail) Tree.fail) (Tree.leaf { e := Ex.exit 2, vs := [], upd := [none], new := [] })) Tree.fail) Tree.fail) Tree.fail) Tree.fail) (Tree.leaf { e := Ex.exit 2, vs := [], upd := [none], new := [] })) := by
  kernel_rfl
/-- The rows of ports. -/
def parseR : List (List V) → Option (List Prt)
  | [] => some []
  | [.int .u8 a0, .int .u8 a1, .int .u8 a2, .int .u8 a3, .int .u8 a4, .int .u8 a5, .int .u8 a6, .int .u8 a7, .int .i64 n] :: rs => (parseR rs).map (⟨⟨a0, a1, a2, a3, a4, a5, a6, a7⟩, n⟩ :: ·)
  | _ => none
theorem parseR_eq : ∀ (rs : List (List V)) (ps : List Prt), parseR rs = some ps → rs = ps.map Prt.vs := by
  intro rs
  induction rs with
  | nil => intro ps h; simp [parseR] at h; subst h; rfl
  | cons r rs ih =>
    intro ps h
    unfold parseR at h
    split at h
    · cases h; rename_i e; cases e
    · rename_i e
      cases e
      obtain ⟨q, hq, rfl⟩ := Option.map_eq_some_iff.1 h
      rw [List.map_cons, ← ih q hq]
      rfl
    · cases h
theorem parseR_map : ∀ ps : List Prt, parseR (ps.map Prt.vs) = some ps
  | [] => rfl
  | p :: ps => by
    have := parseR_map ps
    show (parseR (ps.map Prt.vs)).map _ = _
    rw [this]
    rfl
/-- x is laid among those that lie ahead of it (the nearest is first). -/
def insZ : List Prt → Prt → List Prt
  | [], x => [x]
  | y :: a, x => if cmpP x y < 0 then insZ a x ++ [y] else a.reverse ++ [y, x]
def isoF : List Prt → List Prt → List Prt
  | done, [] => done
  | done, x :: post => isoF (insZ done.reverse x) post
def isoL : List Prt → List Prt
  | [] => []
  | p :: ps => isoF [p] ps
theorem insZ_length : ∀ (a : List Prt) (x : Prt), (insZ a x).length = a.length + 1
  | [], x => rfl
  | y :: a, x => by
    unfold insZ
    split
    · simp [insZ_length a x]
    · simp
theorem row_at {a : List Prt} {x : Prt} {b : List Prt} {k : Nat} (h : k = a.length) : ((a ++ x :: b).map Prt.vs).getD k [] = x.vs := by
  subst h
  simp [List.getD_eq_getElem?_getD]
theorem row_set {a : List Prt} {x y : Prt} {b : List Prt} {k : Nat} (h : k = a.length) : ((a ++ x :: b).map Prt.vs).set k y.vs = (a ++ y :: b).map Prt.vs := by
  subst h
  simp
theorem vsp (x : Prt) : (V.toInt ((Prt.vs x).getD 0 V.any) = x.c.b0 ∧ V.toInt ((Prt.vs x).getD 1 V.any) = x.c.b1 ∧ V.toInt ((Prt.vs x).getD 2 V.any) = x.c.b2 ∧ V.toInt ((Prt.vs x).getD 3 V.any) = x.c.b3) ∧ (V.toInt ((Prt.vs x).getD 4 V.any) = x.c.b4 ∧ V.toInt ((Prt.vs x).getD 5 V.any) = x.c.b5 ∧ V.toInt ((Prt.vs x).getD 6 V.any) = x.c.b6 ∧ V.toInt ((Prt.vs x).getD 7 V.any) = x.c.b7 ∧ V.toInt ((Prt.vs x).getD 8 V.any) = x.n) := ⟨⟨rfl, rfl, rfl, rfl⟩, rfl, rfl, rfl, rfl, rfl⟩
theorem vsx (x : Prt) : [V.int IntKind.u8 x.c.b0, V.int IntKind.u8 x.c.b1, V.int IntKind.u8 x.c.b2, V.int IntKind.u8 x.c.b3, V.int IntKind.u8 x.c.b4, V.int IntKind.u8 x.c.b5, V.int IntKind.u8 x.c.b6, V.int IntKind.u8 x.c.b7, V.int IntKind.i64 x.n] = x.vs := rfl
abbrev siVals (n : Nat) (m i : Int) (j : Nat) : List V := [.sl 0 0 0 9 n none, .int .i64 0, .int .i64 m, .fn (.func 35) [] [], .int .i64 i, .int .i64 j]
/-- Goes the nearest one behind? -/
def goesB : List Prt → Prt → Bool
  | [], _ => false
  | y :: _, x => decide (cmpP x y < 0)
theorem insZ_stay {a : List Prt} {x : Prt} (h : goesB a x = false) : insZ a x = a.reverse ++ [x] := by
  cases a with
  | nil => rfl
  | cons y a =>
    simp only [goesB, decide_eq_false_iff_not] at h
    rw [insZ, if_neg h]
    simp
def siR (a : List Prt) (x : Prt) (post : List Prt) : LRes := ⟨.exit 2, [], [if goesB a x = true then some (some (.rows pK ((insZ a x ++ post).map Prt.vs))) else none], []⟩
theorem si_all {n : Nat} {m i : Int} (hn : n ≤ 1000000) : ∀ (a : List Prt) (x : Prt) (post : List Prt), a.length + 1 + post.length = n →
    ∃ f, (loopN P (specsOf isG) (loopsOf []) 53 [0, 1, 2, 3, 8, 9] [] (loopAt Try.f51 1) f (siVals n m i a.length) [.rows pK ((a.reverse ++ x :: post).map Prt.vs)]).den = some (siR a x post) := by
  intro a
  induction a with
  | nil =>
    intro x post hl
    refine ⟨1, ?_⟩
    have hx := si_round n m i ((0 : Nat) : Int) (([].reverse ++ x :: post).map Prt.vs)
    rw [decide_eq_false (show ¬ ((0 : Nat) : Int) > (0 : Int) by decide)] at hx
    exact loopN_end hx (by show Ex.exit 2 ≠ Ex.nrm; decide)
  | cons y a ih =>
    intro x post hl
    have st := si_round n m i ((a.length + 1 : Nat) : Int) (((y :: a).reverse ++ x :: post).map Prt.vs)
    have hl' : a.length + 1 + 1 + post.length = n := hl
    have w1 : IntKind.i64.wrap (((a.length + 1 : Nat) : Int) - 1) = ((a.length : Nat) : Int) := by rw [wrap64_id (by omega) (by omega)]; omega
    have eb : (y :: a).reverse ++ x :: post = a.reverse ++ y :: x :: post := by simp
    have ex : (((y :: a).reverse ++ x :: post).map Prt.vs).getD (a.length + 1) [] = x.vs := row_at (by simp)
    have ey : (((y :: a).reverse ++ x :: post).map Prt.vs).getD a.length [] = y.vs := by
      rw [eb]; exact row_at (by simp)
    have es : ((((y :: a).reverse ++ x :: post).map Prt.vs).set (a.length + 1) y.vs).set a.length x.vs = (a.reverse ++ x :: y :: post).map Prt.vs := by
      rw [row_set (a := (y :: a).reverse) (by simp), show (y :: a).reverse ++ y :: post = a.reverse ++ y :: y :: post by simp]
      exact row_set (by simp)
    have ll : (((y :: a).reverse ++ x :: post).map Prt.vs).length = n := by simp; omega
    obtain ⟨⟨x0, x1, x2, x3⟩, x4, x5, x6, x7, x8⟩ := vsp x
    obtain ⟨⟨y0, y1, y2, y3⟩, y4, y5, y6, y7, y8⟩ := vsp y
    simp only [w1, Nat.zero_add, Int.toNat_natCast, ex, ey, x0, x1, x2, x3, x4, x5, x6, x7, x8, y0, y1, y2, y3, y4, y5, y6, y7, y8, vsx, es, ll, List.length_set] at st
    rw [decide_eq_true (show ((a.length + 1 : Nat) : Int) > (0 : Int) by omega), decide_eq_true (show (0 : Int) ≤ ((a.length + 1 : Nat) : Int) by omega), decide_eq_true (show ((a.length + 1 : Nat) : Int) < (n : Int) by omega),
      decide_eq_true (show a.length + 1 < n by omega), decide_eq_true (show (0 : Int) ≤ ((a.length : Nat) : Int) by omega), decide_eq_true (show ((a.length : Nat) : Int) < (n : Int) by omega), decide_eq_true (show a.length < n by omega)] at st
    cases hc : decide (cmpP x y < 0) with
    | false =>
      refine ⟨1, ?_⟩
      have st' : (evRound P (specsOf isG) (loopsOf []) 53 [0, 1, 2, 3, 8, 9] [] (loopAt Try.f51 1) (siVals n m i (a.length + 1)) [.rows pK (((y :: a).reverse ++ x :: post).map Prt.vs)]).den = some ⟨.exit 2, [], [none], []⟩ := by
        refine st.trans ?_
        show (Tree.ite (decide (cmpP x y < 0)) _ _ : Tree LRes).den = _
        rw [hc]; rfl
      have e : siR (y :: a) x post = ⟨.exit 2, [], [none], []⟩ := by unfold siR; rw [show goesB (y :: a) x = decide (cmpP x y < 0) from rfl, hc]; rfl
      rw [e]
      exact loopN_end st' (by show Ex.exit 2 ≠ Ex.nrm; decide)
    | true =>
      have st' : (evRound P (specsOf isG) (loopsOf []) 53 [0, 1, 2, 3, 8, 9] [] (loopAt Try.f51 1) (siVals n m i (a.length + 1)) [.rows pK (((y :: a).reverse ++ x :: post).map Prt.vs)]).den = some ⟨.nrm, siVals n m i a.length, [some (some (.rows pK ((a.reverse ++ x :: y :: post).map Prt.vs)))], []⟩ := by
        refine st.trans ?_
        show (Tree.ite (decide (cmpP x y < 0)) _ _ : Tree LRes).den = _
        rw [hc]; rfl
      obtain ⟨f, hf⟩ := ih x (y :: post) (by simp; omega)
      refine ⟨f + 1, ?_⟩
      have e : siR (y :: a) x post = ⟨.exit 2, [], [some (some (.rows pK ((insZ a x ++ y :: post).map Prt.vs)))], []⟩ := by
        unfold siR; rw [show goesB (y :: a) x = decide (cmpP x y < 0) from rfl, hc]
        have ei : insZ (y :: a) x = insZ a x ++ [y] := by
          show (if cmpP x y < 0 then _ else _) = _
          rw [if_pos (by simpa using hc)]
        rw [ei]
        simp
      rw [e]
      refine loopN_step st' rfl (vals' := siVals n m i a.length) (bs' := [.rows pK ((a.reverse ++ x :: y :: post).map Prt.vs)]) (by kernel_rfl) (by kernel_rfl) (by kernel_rfl) hf ?_
      unfold siR
      cases hg : goesB a x with
      | true => (show (seqAfter _ _ _).den = some _; kernel_rfl)
      | false =>
        rw [insZ_stay hg, List.append_assoc]
        (show (seqAfter _ _ _).den = some _; kernel_rfl)
def prts (rs : List (List V)) : List Prt := (parseR rs).getD []
def siF (vals : List V) (bs : List Blk) : Tree LRes := match vals, bs with
  | [.sl 0 0 0 9 n none, .int .i64 0, .int .i64 m, .fn (.func 35) [] [], .int .i64 i, .int .i64 j], [.rows [.int .u8, .int .u8, .int .u8, .int .u8, .int .u8, .int .u8, .int .u8, .int .u8, .int .i64] rs] =>
    .need ((parseR rs).isSome && decide (n = (prts rs).length) && decide (n ≤ 1000000) && decide (0 ≤ j) && decide (j < n)) (.ite (goesB ((prts rs).take j.toNat).reverse ((prts rs).getD j.toNat default))
      (.leaf ⟨.exit 2, [], [some (some (.rows pK ((insZ ((prts rs).take j.toNat).reverse ((prts rs).getD j.toNat default) ++ (prts rs).drop (j.toNat + 1)).map Prt.vs)))], []⟩) (.leaf ⟨.exit 2, [], [none], []⟩))
  | _, _ => .fail
def siL : LSpec := ⟨53, [0, 1, 2, 3, 8, 9], [], siF⟩
theorem si_loop : LoopOK P (loopAt Try.f51 1) siL := by
  refine loop_ok isG_ok Go.Proofs.Ytgdalboilghciaa.hm (Λ := loopsOf []) (LoopsOK.nil (by kernel_rfl)) _ ?_
  intro vals bs r h
  simp only [siL, siF] at h
  split at h
  · rename_i n m i j rs
    rw [den_need, denI, denLf, denLf] at h
    simp only [Bool.and_eq_true, decide_eq_true_eq] at h
    obtain ⟨⟨⟨⟨⟨h0, h1⟩, h2⟩, h3⟩, h4⟩, h⟩ := h
    obtain ⟨ps, hps⟩ := Option.isSome_iff_exists.1 h0
    have := parseR_eq _ _ hps
    subst this
    have e0 : prts (ps.map Prt.vs) = ps := by unfold prts; rw [hps]; rfl
    rw [e0] at h h1
    have hj : j.toNat < ps.length := by omega
    have e : ps = (ps.take j.toNat).reverse.reverse ++ ps.getD j.toNat default :: ps.drop (j.toNat + 1) := by
      rw [List.reverse_reverse, List.getD_eq_getElem?_getD, List.getElem?_eq_getElem hj, Option.getD_some, ← List.drop_eq_getElem_cons hj, List.take_append_drop]
    have hlen : (ps.take j.toNat).reverse.length = j.toNat := by simp; omega
    obtain ⟨f, hf⟩ := si_all (m := m) (i := i) h2 (ps.take j.toNat).reverse (ps.getD j.toNat default) (ps.drop (j.toNat + 1)) (by simp; omega)
    refine ⟨f, ?_⟩
    rw [← e, hlen, show siVals n m i j.toNat = [.sl 0 0 0 9 n none, .int .i64 0, .int .i64 m, .fn (.func 35) [] [], .int .i64 i, .int .i64 j] by show [_, _, _, _, _, _] = _; rw [Int.toNat_of_nonneg h3]] at hf
    refine hf.trans ?_
    unfold siR
    cases hg : goesB (ps.take j.toNat).reverse (ps.getD j.toNat default) with
    | true => rw [hg] at h; exact h
    | false => rw [hg] at h; exact h
  · simp [den_fail] at h
theorem so_round (n : Nat) (m i : Int) (rs : List (List V)) : (evRound P (specsOf isG) (loopsOf [(4, siL)]) 53 [0, 1, 2, 3, 8] [] (loopAt Try.f51 0) [.sl 0 0 0 9 n none, .int .i64 0, .int .i64 m, .fn (.func 35) [] [], .int .i64 i] [.rows pK rs]).den = Tree.den (Tree.ite (decide (i < m)) (Tree.ite ((parseR rs).isSome && decide (n = (prts rs).length) && decide (n ≤ 1000000) && decide (0 ≤ i) && decide (i < (↑n : Int))) (Tree.ite (goesB (List.take i.toNat (prts rs)).reverse ((prts rs).getD i.toNat default)) (Tree.leaf { e := Ex.nrm, vs := [V.sl 0 0 0 9 n none, V.int IntKind.i64 0, V.int IntKind.i64 m, V.fn (Fn.func 35) [] [], V.int IntKind.i64 (IntKind.i64.wrap (i + 1))], upd := [some (some (Body.rows [K.int IntKind.u8, K.int IntKind.u8, K.int IntKind.u8, K.int IntKind.u8, K.int IntKind.u8, K.int IntKind.u8, K.int IntKind.u8, K.int IntKind.u8, K.int IntKind.i64] (List.map Prt.vs (insZ (List.take i.toNat (prts rs)).reverse ((prts rs).getD i.toNat default) ++ List.drop (i.toNat + 1) (prts rs)))))], new := [] }) (Tree.leaf { e := Ex.nrm, vs := [V.sl 0 0 0 9 n none, V.int IntKind.i64 0, V.int IntKind.i64 m, V.fn (Fn.func 35) [] [], V.int IntKind.i64 (IntKind.i64.wrap (i + 1))], upd := [none], new := [] })) Tree.fail) (Tree.leaf { e := Ex.exit 0, vs := [], upd := [none], new := [] })) := by
  kernel_rfl
/-- Does any one go behind? -/
def movF : List Prt → List Prt → Bool
  | _, [] => false
  | done, x :: post => goesB done.reverse x || movF (insZ done.reverse x) post
theorem isoF_stay : ∀ (post done : List Prt), movF done post = false → isoF done post = done ++ post
  | [], done, _ => by simp [isoF]
  | x :: post, done, h => by
    simp only [movF, Bool.or_eq_false_iff] at h
    rw [isoF, isoF_stay post _ h.2, insZ_stay h.1]
    simp
abbrev soVals (n : Nat) (m : Int) (i : Nat) : List V := [.sl 0 0 0 9 n none, .int .i64 0, .int .i64 m, .fn (.func 35) [] [], .int .i64 i]
def soR (done post : List Prt) : LRes := ⟨.exit 0, [], [if movF done post = true then some (some (.rows pK ((isoF done post).map Prt.vs))) else none], []⟩
theorem so_all {n : Nat} (hn : n ≤ 1000000) : ∀ (post done : List Prt), done.length + post.length = n →
    (loopN P (specsOf isG) (loopsOf [(4, siL)]) 53 [0, 1, 2, 3, 8] [] (loopAt Try.f51 0) (post.length + 1) (soVals n n done.length) [.rows pK ((done ++ post).map Prt.vs)]).den = some (soR done post) := by
  intro post
  induction post with
  | nil =>
    intro done hl
    have hx := so_round n n (done.length : Nat) ((done ++ []).map Prt.vs)
    rw [decide_eq_false (show ¬ ((done.length : Nat) : Int) < ((n : Nat) : Int) by simp at hl; omega)] at hx
    exact loopN_end hx (by show Ex.exit 0 ≠ Ex.nrm; decide)
  | cons x post ih =>
    intro done hl
    simp only [List.length_cons] at hl
    have st := so_round n n (done.length : Nat) ((done ++ x :: post).map Prt.vs)
    have w1 : IntKind.i64.wrap (((done.length : Nat) : Int) + 1) = ((done.length + 1 : Nat) : Int) := by rw [wrap64_id (by omega) (by omega)]; omega
    have e0 : prts ((done ++ x :: post).map Prt.vs) = done ++ x :: post := by unfold prts; rw [parseR_map]; rfl
    have e1 : (parseR ((done ++ x :: post).map Prt.vs)).isSome = true := by rw [parseR_map]; rfl
    have e2 : (done ++ x :: post).take done.length = done := by simp
    have e3 : (done ++ x :: post).getD done.length default = x := by simp [List.getD_eq_getElem?_getD]
    have e4 : (done ++ x :: post).drop (done.length + 1) = post := by rw [← List.drop_drop]; simp
    rw [e0, e1, Int.toNat_natCast, e2, e3, e4, w1] at st
    rw [decide_eq_true (show ((done.length : Nat) : Int) < ((n : Nat) : Int) by omega), decide_eq_true (show n = (done ++ x :: post).length by simp; omega), decide_eq_true hn, decide_eq_true (show (0 : Int) ≤ ((done.length : Nat) : Int) by omega)] at st
    have hi := ih (insZ done.reverse x) (by rw [insZ_length]; simp; omega)
    rw [insZ_length, List.length_reverse] at hi
    cases hg : goesB done.reverse x with
    | false =>
      have st' := st.trans (show (Tree.ite (goesB done.reverse x) _ _ : Tree LRes).den = _ by rw [hg])
      have e : insZ done.reverse x ++ post = done ++ x :: post := by rw [insZ_stay hg]; simp
      have e' : soR done (x :: post) = ⟨.exit 0, [], [if movF (insZ done.reverse x) post = true then some (some (.rows pK ((isoF (insZ done.reverse x) post).map Prt.vs))) else none], []⟩ := by
        unfold soR; rw [show movF done (x :: post) = (goesB done.reverse x || movF (insZ done.reverse x) post) from rfl, hg, Bool.false_or]; rfl
      rw [e]at hi
      rw [e']
      refine loopN_step st' rfl (vals' := soVals n n (done.length + 1)) (bs' := [.rows pK ((done ++ x :: post).map Prt.vs)]) (by kernel_rfl) (by kernel_rfl) (by kernel_rfl) hi ?_
      unfold soR
      cases movF (insZ done.reverse x) post <;> (show (seqAfter _ _ _).den = some _; kernel_rfl)
    | true =>
      have st' := st.trans (show (Tree.ite (goesB done.reverse x) _ _ : Tree LRes).den = _ by rw [hg])
      have e' : soR done (x :: post) = ⟨.exit 0, [], [some (some (.rows pK ((isoF (insZ done.reverse x) post).map Prt.vs)))], []⟩ := by
        unfold soR; rw [show movF done (x :: post) = (goesB done.reverse x || movF (insZ done.reverse x) post) from rfl, hg, Bool.true_or]; rfl
      rw [e']
      refine loopN_step st' rfl (vals' := soVals n n (done.length + 1)) (bs' := [.rows pK ((insZ done.reverse x ++ post).map Prt.vs)]) (by kernel_rfl) (by kernel_rfl) (by kernel_rfl) hi ?_
      unfold soR
      cases hm : movF (insZ done.reverse x) post with
      | true => (show (seqAfter _ _ _).den = some _; kernel_rfl)
      | false => rw [isoF_stay _ _ hm]; (show (seqAfter _ _ _).den = some _; kernel_rfl)
def soF (vals : List V) (bs : List Blk) : Tree LRes := match vals, bs with
  | [.sl 0 0 0 9 n none, .int .i64 0, .int .i64 m, .fn (.func 35) [] [], .int .i64 i], [.rows [.int .u8, .int .u8, .int .u8, .int .u8, .int .u8, .int .u8, .int .u8, .int .u8, .int .i64] rs] =>
    .need ((parseR rs).isSome && decide (n = (prts rs).length) && decide (1 ≤ n) && decide (n ≤ 1000000) && decide (m = n) && decide (i = 1)) (.ite (movF ((prts rs).take 1) ((prts rs).drop 1))
      (.leaf ⟨.exit 0, [], [some (some (.rows pK ((isoL (prts rs)).map Prt.vs)))], []⟩) (.leaf ⟨.exit 0, [], [none], []⟩))
  | _, _ => .fail
def soL : LSpec := ⟨53, [0, 1, 2, 3, 8], [], soF⟩
theorem so_loop : LoopOK P (loopAt Try.f51 0) soL := by
  refine loop_ok isG_ok Go.Proofs.Ytgdalboilghciaa.hm (Λ := loopsOf [(4, siL)]) (LoopsOK.inner (by kernel_rfl) (by kernel_rfl) si_loop) _ ?_
  intro vals bs r h
  simp only [soL, soF] at h
  split at h
  · rename_i n m i rs
    rw [den_need, denI, denLf, denLf] at h
    simp only [Bool.and_eq_true, decide_eq_true_eq] at h
    obtain ⟨⟨⟨⟨⟨⟨h0, h1⟩, h2⟩, h3⟩, rfl⟩, rfl⟩, h⟩ := h
    obtain ⟨ps, hps⟩ := Option.isSome_iff_exists.1 h0
    have := parseR_eq _ _ hps
    subst this
    have e0 : prts (ps.map Prt.vs) = ps := by unfold prts; rw [hps]; rfl
    rw [e0] at h h1
    cases ps with
    | nil => simp at h1; omega
    | cons p ps =>
      have hs := so_all h3 ps [p] (by simp at h1 ⊢; omega)
      refine ⟨_, hs.trans ?_⟩
      refine Eq.trans ?_ h
      unfold soR
      show _ = if movF [p] ps = true then _ else _
      cases movF [p] ps <;> rfl
  · simp [den_fail] at h
def isS : Rx.Spec := fun a b => match a, b with
  | [.sl 0 0 0 9 n none, .int .i64 0, .int .i64 m, .fn (.func 35) [] []], [.rows [.int .u8, .int .u8, .int .u8, .int .u8, .int .u8, .int .u8, .int .u8, .int .u8, .int .i64] rs] =>
    .need ((parseR rs).isSome && decide (n = (prts rs).length) && decide (1 ≤ n) && decide (n ≤ 1000000) && decide (m = n)) (.ite (movF ((prts rs).take 1) ((prts rs).drop 1))
      (.leaf ⟨.tup [], [some (some (.rows pK ((isoL (prts rs)).map Prt.vs)))], []⟩) (.leaf ⟨.tup [], [none], []⟩))
  | _, _ => .fail
theorem is_ok : SpecOK P 51 isS := by
  refine specOK_fast isG_ok hm (Λ := loopsOf [(1, soL), (4, siL)]) Try.func51 (by kernel_rfl) (LoopsOK.two (by kernel_rfl) (by kernel_rfl) so_loop si_loop) ?_
  intro args bs r h
  unfold isS at h
  split at h
  · rename_i n m rs
    rw [den_need, denI, denLf, denLf] at h
    simp only [Bool.and_eq_true, decide_eq_true_eq] at h
    obtain ⟨⟨⟨⟨⟨h0, h1⟩, h2⟩, h3⟩, rfl⟩, h⟩ := h
    rw [show (fFn P (specsOf isG) (loopsOf [(1, soL), (4, siL)]) Try.f51 [.sl 0 0 0 9 n none, .int .i64 0, .int .i64 n, .fn (.func 35) [] []] [.rows pK rs]).denN = Tree.denN (Tree.ite ((parseR rs).isSome && decide (n = (prts rs).length) && decide (1 ≤ n) && decide (n ≤ 1000000) && decide ((↑n : Int) = (↑n : Int)) && true) (Tree.ite (movF (List.take 1 (prts rs)) (List.drop 1 (prts rs))) (Tree.leaf { v := V.tup [], upd := [some (some (Body.rows [K.int IntKind.u8, K.int IntKind.u8, K.int IntKind.u8, K.int IntKind.u8, K.int IntKind.u8, K.int IntKind.u8, K.int IntKind.u8, K.int IntKind.u8, K.int IntKind.i64] (List.map Prt.vs (isoL (prts rs)))))], new := [] }) (Tree.leaf { v := V.tup [], upd := [none], new := [] })) Tree.fail) from by kernel_rfl]
    rw [h0, decide_eq_true h1, decide_eq_true h2, decide_eq_true h3, decide_eq_true (show (n : Int) = (n : Int) from rfl)]
    cases hv : movF ((prts rs).take 1) ((prts rs).drop 1) with
    | true => rw [hv] at h; cases h; rfl
    | false => rw [hv] at h; cases h; rfl
  · simp [den_fail] at h
/-! ### The sorting of few -/
noncomputable abbrev lnG : List (Nat × Rx.Spec) := [(59, fFn P (specsOf []) (loopsOf []) Try.f59), (60, fFn P (specsOf []) (loopsOf []) Try.f60)]
theorem lnG_ok : GammaOK P lnG := .cons (inl_ok (GammaOK.nil P) hm Try.func59 (by kernel_rfl) (LoopsOK.nil (by kernel_rfl))) (.cons (inl_ok (GammaOK.nil P) hm Try.func60 (by kernel_rfl) (LoopsOK.nil (by kernel_rfl))) (.nil P))
noncomputable abbrev lenG : List (Nat × Rx.Spec) := [(47, fFn P (specsOf lnG) (loopsOf []) Try.f47)]
abbrev pdG : List (Nat × Rx.Spec) := [(51, isS)]
theorem pdG_ok : GammaOK P pdG := .cons is_ok (.nil P)
noncomputable abbrev pdL : LSpec := fUnroll P (specsOf pdG) (loopsOf []) Try.f46 (loopAt Try.f46 0) 1
theorem pd_loop : LoopOK P (loopAt Try.f46 0) pdL := fUnroll_ok pdG_ok hm (Λ := loopsOf []) (LoopsOK.nil (by kernel_rfl)) _ _
def pdS : Rx.Spec := fun a b => match a, b with
  | [.sl 0 0 0 9 n none, .int .i64 0, .int .i64 m, .int .i64 q, .fn (.func 35) [] []], [.rows [.int .u8, .int .u8, .int .u8, .int .u8, .int .u8, .int .u8, .int .u8, .int .u8, .int .i64] rs] =>
    .need ((parseR rs).isSome && decide (n = (prts rs).length) && decide (1 ≤ n) && decide (n ≤ 12) && decide (m = n)) (.ite (movF ((prts rs).take 1) ((prts rs).drop 1))
      (.leaf ⟨.tup [], [some (some (.rows pK ((isoL (prts rs)).map Prt.vs)))], []⟩) (.leaf ⟨.tup [], [none], []⟩))
  | _, _ => .fail
theorem pd_ok : SpecOK P 46 pdS := by
  refine specOK_fast pdG_ok hm (Λ := loopsOf [(2, pdL)]) Try.func46 (by kernel_rfl) (LoopsOK.one (by kernel_rfl) pd_loop) ?_
  intro args bs r h
  unfold pdS at h
  split at h
  · rename_i n m q rs
    rw [den_need, denI, denLf, denLf] at h
    simp only [Bool.and_eq_true, decide_eq_true_eq] at h
    obtain ⟨⟨⟨⟨⟨h0, h1⟩, h2⟩, h3⟩, rfl⟩, h⟩ := h
    rw [show (fFn P (specsOf pdG) (loopsOf [(2, pdL)]) Try.f46 [.sl 0 0 0 9 n none, .int .i64 0, .int .i64 n, .int .i64 q, .fn (.func 35) [] []] [.rows pK rs]).denN = Tree.denN (Tree.ite (decide (IntKind.i64.wrap ((↑n : Int) - 0) ≤ 12)) (Tree.ite ((parseR rs).isSome && decide (n = (prts rs).length) && decide (1 ≤ n) && decide (n ≤ 1000000) && decide ((↑n : Int) = (↑n : Int))) (Tree.ite (movF (List.take 1 (prts rs)) (List.drop 1 (prts rs))) (Tree.leaf { v := V.tup [], upd := [some (some (Body.rows [K.int IntKind.u8, K.int IntKind.u8, K.int IntKind.u8, K.int IntKind.u8, K.int IntKind.u8, K.int IntKind.u8, K.int IntKind.u8, K.int IntKind.u8, K.int IntKind.i64] (List.map Prt.vs (isoL (prts rs)))))], new := [] }) (Tree.leaf { v := V.tup [], upd := [none], new := [] })) Tree.fail) (Tree.ite (q == 0) Tree.fail Tree.fail)) from by kernel_rfl]
    rw [show IntKind.i64.wrap ((n : Int) - 0) = n by rw [wrap64_id (by omega) (by omega)]; omega, decide_eq_true (show (n : Int) ≤ 12 by omega)]
    rw [h0, decide_eq_true h1, decide_eq_true h2, decide_eq_true (show n ≤ 1000000 by omega), decide_eq_true (show (n : Int) = (n : Int) from rfl)]
    cases hv : movF ((prts rs).take 1) ((prts rs).drop 1) with
    | true => rw [hv] at h; cases h; rfl
    | false => rw [hv] at h; cases h; rfl
  · simp [den_fail] at h
noncomputable abbrev sfG : List (Nat × Rx.Spec) := [(47, fFn P (specsOf lnG) (loopsOf []) Try.f47), (46, pdS)]
theorem sfG_ok : GammaOK P sfG := .cons (inl_ok lnG_ok hm Try.func47 (by kernel_rfl) (LoopsOK.nil (by kernel_rfl))) (.cons pd_ok (.nil P))
def sfS : Rx.Spec := fun a b => match a, b with
  | [.sl 0 0 0 9 n none, .fn (.func 35) [] []], [.rows [.int .u8, .int .u8, .int .u8, .int .u8, .int .u8, .int .u8, .int .u8, .int .u8, .int .i64] rs] =>
    .need ((parseR rs).isSome && decide (n = (prts rs).length) && decide (1 ≤ n) && decide (n ≤ 12)) (.ite (movF ((prts rs).take 1) ((prts rs).drop 1))
      (.leaf ⟨.tup [], [some (some (.rows pK ((isoL (prts rs)).map Prt.vs)))], []⟩) (.leaf ⟨.tup [], [none], []⟩))
  | _, _ => .fail
theorem sf_ok : SpecOK P 39 sfS := by
  refine specOK_fast sfG_ok hm (Λ := loopsOf []) Try.func39 (by kernel_rfl) (LoopsOK.nil (by kernel_rfl)) ?_
  intro args bs r h
  unfold sfS at h
  split at h
  · rename_i n rs
    rw [den_need, denI, denLf, denLf] at h
    simp only [Bool.and_eq_true, decide_eq_true_eq] at h
    obtain ⟨⟨⟨⟨h0, h1⟩, h2⟩, h3⟩, h⟩ := h
    rw [show (fFn P (specsOf sfG) (loopsOf []) Try.f39 [.sl 0 0 0 9 n none, .fn (.func 35) [] []] [.rows pK rs]).denN = Tree.denN (Tree.ite (decide (IntKind.u64.wrap (↑n : Int) ≥ 4294967296)) (Tree.ite (decide ((IntKind.u64.wrap (↑n : Int)).fdiv 4294967296 ≥ 65536)) (Tree.ite (decide (((IntKind.u64.wrap (↑n : Int)).fdiv 4294967296).fdiv 65536 ≥ 256)) (Tree.ite (decide (0 ≤ IntKind.u8.wrap ((((IntKind.u64.wrap (↑n : Int)).fdiv 4294967296).fdiv 65536).fdiv 256)) && decide (IntKind.u8.wrap ((((IntKind.u64.wrap (↑n : Int)).fdiv 4294967296).fdiv 65536).fdiv 256) < 256)) (Tree.ite ((parseR rs).isSome && decide (n = (prts rs).length) && decide (1 ≤ n) && decide (n ≤ 12) && decide ((↑n : Int) = (↑n : Int))) (Tree.ite (movF (List.take 1 (prts rs)) (List.drop 1 (prts rs))) (Tree.leaf { v := V.tup [], upd := [some (some (Body.rows [K.int IntKind.u8, K.int IntKind.u8, K.int IntKind.u8, K.int IntKind.u8, K.int IntKind.u8, K.int IntKind.u8, K.int IntKind.u8, K.int IntKind.u8, K.int IntKind.i64] (List.map Prt.vs (isoL (prts rs)))))], new := [] }) (Tree.leaf { v := V.tup [], upd := [none], new := [] })) Tree.fail) Tree.fail) (Tree.ite (decide (0 ≤ IntKind.u8.wrap (((IntKind.u64.wrap (↑n : Int)).fdiv 4294967296).fdiv 65536)) && decide (IntKind.u8.wrap (((IntKind.u64.wrap (↑n : Int)).fdiv 4294967296).fdiv 65536) < 256)) (Tree.ite ((parseR rs).isSome && decide (n = (prts rs).length) && decide (1 ≤ n) && decide (n ≤ 12) && decide ((↑n : Int) = (↑n : Int))) (Tree.ite (movF (List.take 1 (prts rs)) (List.drop 1 (prts rs))) (Tree.leaf { v := V.tup [], upd := [some (some (Body.rows [K.int IntKind.u8, K.int IntKind.u8, K.int IntKind.u8, K.int IntKind.u8, K.int IntKind.u8, K.int IntKind.u8, K.int IntKind.u8, K.int IntKind.u8, K.int IntKind.i64] (List.map Prt.vs (isoL (prts rs)))))], new := [] }) (Tree.leaf { v := V.tup [], upd := [none], new := [] })) Tree.fail) Tree.fail)) (Tree.ite (decide ((IntKind.u64.wrap (↑n : Int)).fdiv 4294967296 ≥ 256)) (Tree.ite (decide (0 ≤ IntKind.u8.wrap (((IntKind.u64.wrap (↑n : Int)).fdiv 4294967296).fdiv 256)) && decide (IntKind.u8.wrap (((IntKind.u64.wrap (↑n : Int)).fdiv 4294967296).fdiv 256) < 256)) (Tree.ite ((parseR rs).isSome && decide (n = (prts rs).length) && decide (1 ≤ n) && decide (n ≤ 12) && decide ((↑n : Int) = (↑n : Int))) (Tree.ite (movF (List.take 1 (prts rs)) (List.drop 1 (prts rs))) (Tree.leaf { v := V.tup [], upd := [some (some (Body.rows [K.int IntKind.u8, K.int IntKind.u8, K.int IntKind.u8, K.int IntKind.u8, K.int IntKind.u8, K.int IntKind.u8, K.int IntKind.u8, K.int IntKind.u8, K.int IntKind.i64] (List.map Prt.vs (isoL (prts rs)))))], new := [] }) (Tree.leaf { v := V.tup [], upd := [none], new := [] })) Tree.fail) Tree.fail) (Tree.ite (decide (0 ≤ IntKind.u8.wrap ((IntKind.u64.wrap (↑n : Int)).fdiv 4294967296)) && decide (IntKind.u8.wrap ((IntKind.u64.wrap (↑n : Int)).fdiv 4294967296) < 256)) (Tree.ite ((parseR rs).isSome && decide (n = (prts rs).length) && decide (1 ≤ n) && decide (n ≤ 12) && decide ((↑n : Int) = (↑n : Int))) (Tree.ite (movF (List.take 1 (prts rs)) (List.drop 1 (prts rs))) (Tree.leaf { v := V.tup [], upd := [some (some (Body.rows [K.int IntKind.u8, K.int IntKind.u8, K.int IntKind.u8, K.int IntKind.u8, K.int IntKind.u8, K.int IntKind.u8, K.int IntKind.u8, K.int IntKind.u8, K.int IntKind.i64] (List.map Prt.vs (isoL (prts rs)))))], new := [] }) (Tree.leaf { v := V.tup [], upd := [none], new := [] })) Tree.fail) Tree.fail))) (Tree.ite (decide (IntKind.u64.wrap (↑n : Int) ≥ 65536)) (Tree.ite (decide ((IntKind.u64.wrap (↑n : Int)).fdiv 65536 ≥ 256)) (Tree.ite (decide (0 ≤ IntKind.u8.wrap (((IntKind.u64.wrap (↑n : Int)).fdiv 65536).fdiv 256)) && decide (IntKind.u8.wrap (((IntKind.u64.wrap (↑n : Int)).fdiv 65536).fdiv 256) < 256)) (Tree.ite ((parseR rs).isSome && decide (n = (prts rs).length) && decide (1 ≤ n) && decide (n ≤ 12) && decide ((↑n : Int) = (↑n : Int))) (Tree.ite (movF (List.take 1 (prts rs)) (List.drop 1 (prts rs))) (Tree.leaf { v := V.tup [], upd := [some (some (Body.rows [K.int IntKind.u8, K.int IntKind.u8, K.int IntKind.u8, K.int IntKind.u8, K.int IntKind.u8, K.int IntKind.u8, K.int IntKind.u8, K.int IntKind.u8, K.int IntKind.i64] (List.map Prt.vs (isoL (prts rs)))))], new := [] }) (Tree.leaf { v := V.tup [], upd := [none], new := [] })) Tree.fail) Tree.fail) (Tree.ite (decide (0 ≤ IntKind.u8.wrap ((IntKind.u64.wrap (↑n : Int)).fdiv 65536)) && decide (IntKind.u8.wrap ((IntKind.u64.wrap (↑n : Int)).fdiv 65536) < 256)) (Tree.ite ((parseR rs).isSome && decide (n = (prts rs).length) && decide (1 ≤ n) && decide (n ≤ 12) && decide ((↑n : Int) = (↑n : Int))) (Tree.ite (movF (List.take 1 (prts rs)) (List.drop 1 (prts rs))) (Tree.leaf { v := V.tup [], upd := [some (some (Body.rows [K.int IntKind.u8, K.int IntKind.u8, K.int IntKind.u8, K.int IntKind.u8, K.int IntKind.u8, K.int IntKind.u8, K.int IntKind.u8, K.int IntKind.u8, K.int IntKind.i64] (List.map Prt.vs (isoL (prts rs)))))], new := [] }) (Tree.leaf { v := V.tup [], upd := [none], new := [] })) Tree.fail) Tree.fail)) (Tree.ite (decide (IntKind.u64.wrap (↑n : Int) ≥ 256)) (Tree.ite (decide (0 ≤ IntKind.u8.wrap ((IntKind.u64.wrap (↑n : Int)).fdiv 256)) && decide (IntKind.u8.wrap ((IntKind.u64.wrap (↑n : Int)).fdiv 256) < 256)) (Tree.ite ((parseR rs).isSome && decide (n = (prts rs).length) && decide (1 ≤ n) && decide (n ≤ 12) && decide ((↑n : Int) = (↑n : Int))) (Tree.ite (movF (List.take 1 (prts rs)) (List.drop 1 (prts rs))) (Tree.leaf { v := V.tup [], upd := [some (some (Body.rows [K.int IntKind.u8, K.int IntKind.u8, K.int IntKind.u8, K.int IntKind.u8, K.int IntKind.u8, K.int IntKind.u8, K.int IntKind.u8, K.int IntKind.u8, K.int IntKind.i64] (List.map Prt.vs (isoL (prts rs)))))], new := [] }) (Tree.leaf { v := V.tup [], upd := [none], new := [] })) Tree.fail) Tree.fail) (Tree.ite (true && decide (IntKind.u8.wrap (IntKind.u64.wrap (↑n : Int)) < 256)) (Tree.ite ((parseR rs).isSome && decide (n = (prts rs).length) && decide (1 ≤ n) && decide (n ≤ 12) && decide ((↑n : Int) = (↑n : Int))) (Tree.ite (movF (List.take 1 (prts rs)) (List.drop 1 (prts rs))) (Tree.leaf { v := V.tup [], upd := [some (some (Body.rows [K.int IntKind.u8, K.int IntKind.u8, K.int IntKind.u8, K.int IntKind.u8, K.int IntKind.u8, K.int IntKind.u8, K.int IntKind.u8, K.int IntKind.u8, K.int IntKind.i64] (List.map Prt.vs (isoL (prts rs)))))], new := [] }) (Tree.leaf { v := V.tup [], upd := [none], new := [] })) Tree.fail) Tree.fail)))) from by kernel_rfl]
    have hn : n = 1 ∨ n = 2 ∨ n = 3 ∨ n = 4 ∨ n = 5 ∨ n = 6 ∨ n = 7 ∨ n = 8 ∨ n = 9 ∨ n = 10 ∨ n = 11 ∨ n = 12 := by omega
    have w1 : IntKind.u64.wrap (n : Int) = n := by rcases hn with rfl | rfl | rfl | rfl | rfl | rfl | rfl | rfl | rfl | rfl | rfl | rfl <;> rfl
    have w2 : IntKind.u8.wrap (n : Int) = n := by rcases hn with rfl | rfl | rfl | rfl | rfl | rfl | rfl | rfl | rfl | rfl | rfl | rfl <;> rfl
    rw [w1, w2, decide_eq_false (show ¬ (n : Int) ≥ 4294967296 by omega), decide_eq_false (show ¬ (n : Int) ≥ 65536 by omega), decide_eq_false (show ¬ (n : Int) ≥ 256 by omega), decide_eq_true (show (n : Int) < 256 by omega)]
    rw [h0, decide_eq_true h1, decide_eq_true h2, decide_eq_true h3, decide_eq_true (show (n : Int) = (n : Int) from rfl)]
    cases hv : movF ((prts rs).take 1) ((prts rs).drop 1) with
    | true => rw [hv] at h; cases h; rfl
    | false => rw [hv] at h; cases h; rfl
  · simp [den_fail] at h
/-! ### Nothing to sort -/
noncomputable abbrev niL : LSpec := fUnroll P (specsOf []) (loopsOf []) Try.f51 (loopAt Try.f51 0) 1
theorem ni_loop : LoopOK P (loopAt Try.f51 0) niL := fUnroll_ok (GammaOK.nil P) hm (Λ := loopsOf []) (fun c' hc t ht => by cases ht) _ _
theorem nis_ok : SpecOK P 51 (fFn P (specsOf []) (loopsOf [(1, niL)]) Try.f51) := inl_ok (GammaOK.nil P) hm Try.func51 (by kernel_rfl) (LoopsOK.outer (by kernel_rfl) (by kernel_rfl) ni_loop)
noncomputable abbrev npG : List (Nat × Rx.Spec) := [(51, fFn P (specsOf []) (loopsOf [(1, niL)]) Try.f51)]
theorem npG_ok : GammaOK P npG := .cons nis_ok (.nil P)
noncomputable abbrev npL : LSpec := fUnroll P (specsOf npG) (loopsOf []) Try.f46 (loopAt Try.f46 0) 1
theorem np_loop : LoopOK P (loopAt Try.f46 0) npL := fUnroll_ok npG_ok hm (Λ := loopsOf []) (LoopsOK.nil (by kernel_rfl)) _ _
noncomputable abbrev nsG : List (Nat × Rx.Spec) := [(47, fFn P (specsOf lnG) (loopsOf []) Try.f47), (46, fFn P (specsOf npG) (loopsOf [(2, npL)]) Try.f46)]
theorem nsG_ok : GammaOK P nsG := .cons (inl_ok lnG_ok hm Try.func47 (by kernel_rfl) (LoopsOK.nil (by kernel_rfl))) (.cons (inl_ok npG_ok hm Try.func46 (by kernel_rfl) (LoopsOK.one (by kernel_rfl) np_loop)) (.nil P))
def nsS : Rx.Spec := fun a b => match a, b with
  | [.nils, .fn (.func 35) [] []], [] => .leaf ⟨.tup [], [], []⟩
  | _, _ => .fail
theorem ns_ok : SpecOK P 39 nsS := by
  refine specOK_fast nsG_ok hm (Λ := loopsOf []) Try.func39 (by kernel_rfl) (LoopsOK.nil (by kernel_rfl)) ?_
  intro args bs r h
  unfold nsS at h
  split at h
  · rw [denLf] at h; cases h
    exact (show (fFn P (specsOf nsG) (loopsOf []) Try.f39 [.nils, .fn (.func 35) [] []] []).denN = Tree.denN (Tree.leaf { v := V.tup [], upd := [], new := [] }) from by kernel_rfl)
  · simp [den_fail] at h
end Go.Proofs.Ytgdalboilghciaa

set_option linter.unusedSimpArgs false
set_option linter.unusedVariables false
namespace Go.Proofs.Ytgdalboilghciaa
open Go.Rx
def lx : List Int → List Int → Int
  | a :: xs, b :: ys => if (a != b) = true then cmpI a b else lx xs ys
  | _, _ => 0
def kc (c : Ck) : List Int := [c.b0, c.b1, c.b2, c.b3, c.b4, c.b5, c.b6, c.b7]
def kl (p : Prt) : List Int := kc p.c ++ [p.n]
theorem cmpC_lx (a b : Ck) : cmpC a b = lx (kc a) (kc b) := rfl
theorem cmpI_ne {a b : Int} (h : (a != b) = true) : cmpI a b ≠ 0 := by
  have : a ≠ b := by simpa using h
  unfold cmpI
  split
  · decide
  · split
    · decide
    · omega
theorem lx_append : ∀ (xs ys : List Int) (x y : Int), xs.length = ys.length → lx (xs ++ [x]) (ys ++ [y]) = if (lx xs ys != 0) = true then lx xs ys else cmpI x y
  | [], [], x, y, _ => by
    show (if (x != y) = true then cmpI x y else 0) = cmpI x y
    split
    · rfl
    · rename_i h
      have : x = y := by simpa using h
      subst this
      simp [cmpI]
  | a :: xs, b :: ys, x, y, h => by
    show (if (a != b) = true then cmpI a b else lx (xs ++ [x]) (ys ++ [y])) = if ((if (a != b) = true then cmpI a b else lx xs ys) != 0) = true then (if (a != b) = true then cmpI a b else lx xs ys) else cmpI x y
    by_cases hab : (a != b) = true
    · rw [if_pos hab, if_pos hab, if_pos (by simpa using cmpI_ne hab)]
    · rw [if_neg hab, if_neg hab]
      exact lx_append xs ys x y (by simpa using h)
theorem cmpP_lx (p q : Prt) : cmpP p q = lx (kl p) (kl q) := by
  unfold kl
  rw [lx_append (kc p.c) (kc q.c) p.n q.n (show 8 = 8 from rfl), ← cmpC_lx]
  rfl
theorem kl_inj {p q : Prt} (h : kl p = kl q) : p = q := by
  obtain ⟨⟨a0, a1, a2, a3, a4, a5, a6, a7⟩, a8⟩ := p
  obtain ⟨⟨b0, b1, b2, b3, b4, b5, b6, b7⟩, b8⟩ := q
  simp only [kl, kc, List.cons_append, List.nil_append, List.cons.injEq, and_true] at h
  obtain ⟨h0, h1, h2, h3, h4, h5, h6, h7, h8⟩ := h
  subst h0 h1 h2 h3 h4 h5 h6 h7 h8
  rfl
theorem lx_zero : ∀ (xs ys : List Int), xs.length = ys.length → lx xs ys = 0 → xs = ys
  | [], [], _, _ => rfl
  | a :: xs, b :: ys, h, e => by
    simp only [lx] at e
    by_cases hab : (a != b) = true
    · rw [if_pos hab] at e; exact absurd e (cmpI_ne hab)
    · rw [if_neg hab] at e
      rw [lx_zero xs ys (by simpa using h) e, show a = b by simpa using hab]
theorem cmpI_swap (a b : Int) : cmpI b a = - cmpI a b := by
  unfold cmpI
  by_cases h1 : a < b <;> by_cases h2 : b < a <;> simp [h1, h2] <;> omega
theorem lx_swap : ∀ (xs ys : List Int), lx ys xs = - lx xs ys
  | [], [] => rfl
  | [], _ :: _ => rfl
  | _ :: _, [] => rfl
  | a :: xs, b :: ys => by
    simp only [lx]
    by_cases hab : (a != b) = true
    · rw [if_pos hab, if_pos (by simp at hab ⊢; omega), cmpI_swap]
    · rw [if_neg hab, if_neg (by simp at hab ⊢; omega), lx_swap xs ys]
theorem cmpI_le {a b : Int} (h : (a != b) = true) : cmpI a b ≤ 0 ↔ a < b := by
  have : a ≠ b := by simpa using h
  unfold cmpI
  by_cases h1 : a < b
  · simp [h1]
  · have h2 : b < a := by omega
    simp [h1, h2]
theorem lx_trans : ∀ (xs ys zs : List Int), xs.length = ys.length → ys.length = zs.length → lx xs ys ≤ 0 → lx ys zs ≤ 0 → lx xs zs ≤ 0
  | [], [], [], _, _, _, _ => by decide
  | a :: xs, b :: ys, c :: zs, h1, h2, e1, e2 => by
    simp only [lx] at e1 e2 ⊢
    by_cases hab : (a != b) = true
    · rw [if_pos hab, cmpI_le hab] at e1
      by_cases hbc : (b != c) = true
      · rw [if_pos hbc, cmpI_le hbc] at e2
        have : (a != c) = true := by simp; omega
        rw [if_pos this, cmpI_le this]; omega
      · have : b = c := by simpa using hbc
        subst this
        rw [if_pos hab, cmpI_le hab]; exact e1
    · have : a = b := by simpa using hab
      subst this
      rw [if_neg hab] at e1
      by_cases hbc : (a != c) = true
      · rw [if_pos hbc] at e2 ⊢; exact e2
      · rw [if_neg hbc] at e2 ⊢
        exact lx_trans xs ys zs (by simpa using h1) (by simpa using h2) e1 e2
def leP (p q : Prt) : Prop := cmpP p q ≤ 0
theorem leP_trans {p q r : Prt} (h : leP p q) (k : leP q r) : leP p r := by
  unfold leP at *
  rw [cmpP_lx] at *
  exact lx_trans (kl p) (kl q) (kl r) (show 9 = 9 from rfl) (show 9 = 9 from rfl) h k
theorem leP_anti {p q : Prt} (h : leP p q) (k : leP q p) : p = q := by
  unfold leP at *
  rw [cmpP_lx] at *
  rw [lx_swap] at k
  exact kl_inj (lx_zero _ _ (show 9 = 9 from rfl) (by omega))
theorem leP_of_not {p q : Prt} (h : ¬ cmpP p q < 0) : leP q p := by
  unfold leP
  rw [cmpP_lx] at *
  rw [lx_swap]
  omega
theorem insZ_perm : ∀ (a : List Prt) (x : Prt), (insZ a x).Perm (x :: a)
  | [], x => List.Perm.refl _
  | y :: a, x => by
    unfold insZ
    split
    · exact (List.perm_append_singleton y _).trans (((insZ_perm a x).cons y).trans (List.Perm.swap _ _ _))
    · have : (a.reverse ++ [y, x]).Perm ([y, x] ++ a.reverse) := List.perm_append_comm
      refine this.trans ?_
      refine List.Perm.trans (List.Perm.swap _ _ _) ?_
      exact ((List.reverse_perm a).cons y).cons x
theorem insZ_sorted : ∀ (a : List Prt) (x : Prt), a.reverse.Pairwise leP → (insZ a x).Pairwise leP
  | [], x, _ => by simp [insZ]
  | y :: a, x, h => by
    rw [List.reverse_cons, List.pairwise_append] at h
    obtain ⟨h1, _, h3⟩ := h
    have hy : ∀ z ∈ a, leP z y := fun z hz => h3 z (by simpa using hz) y (by simp)
    unfold insZ
    split
    · rename_i hlt
      rw [List.pairwise_append]
      refine ⟨insZ_sorted a x h1, by simp, fun z hz y' hy' => ?_⟩
      obtain rfl : y' = y := by simpa using hy'
      rcases List.mem_cons.1 ((insZ_perm a x).mem_iff.1 hz) with rfl | hz
      · exact Int.le_of_lt hlt
      · exact hy z hz
    · rename_i hlt
      have hyx := leP_of_not hlt
      rw [List.pairwise_append]
      refine ⟨h1, by simpa using hyx, fun z hz y' hy' => ?_⟩
      have hz' := hy z (by simpa using hz)
      simp only [List.mem_cons, List.not_mem_nil, or_false] at hy'
      rcases hy' with rfl | rfl
      · exact hz'
      · exact leP_trans hz' hyx
theorem isoF_perm : ∀ (post done : List Prt), (isoF done post).Perm (done ++ post)
  | [], done => by simp [isoF]
  | x :: post, done => by
    rw [isoF]
    refine (isoF_perm post _).trans ?_
    refine ((insZ_perm done.reverse x).append_right post).trans ?_
    refine List.Perm.trans (((List.reverse_perm done).cons x).append_right post) ?_
    exact (List.perm_middle (l₁ := done) (l₂ := post) (a := x)).symm
theorem isoF_sorted : ∀ (post done : List Prt), done.Pairwise leP → (isoF done post).Pairwise leP
  | [], done, h => by simpa [isoF] using h
  | x :: post, done, h => by
    rw [isoF]
    exact isoF_sorted post _ (insZ_sorted _ _ (by simpa using h))
theorem isoL_perm : ∀ l : List Prt, (isoL l).Perm l
  | [] => List.Perm.refl _
  | p :: ps => isoF_perm ps [p]
theorem isoL_sorted : ∀ l : List Prt, (isoL l).Pairwise leP
  | [] => List.Pairwise.nil
  | p :: ps => isoF_sorted ps [p] (by simp)
theorem sorted_eq : ∀ (l m : List Prt), l.Pairwise leP → m.Pairwise leP → l.Perm m → l = m
  | [], m, _, _, h => h.nil_eq
  | x :: l, [], _, _, h => absurd h.length_eq (by simp)
  | x :: l, y :: m, hl, hm, h => by
    rw [List.pairwise_cons] at hl hm
    have hxy : x = y := by
      rcases List.mem_cons.1 (h.mem_iff.1 (List.mem_cons_self (a := x) (l := l))) with e | e
      · exact e
      · rcases List.mem_cons.1 (h.symm.mem_iff.1 (List.mem_cons_self (a := y) (l := m))) with e' | e'
        · exact e'.symm
        · exact leP_anti (hl.1 y e') (hm.1 x e)
    subst hxy
    rw [sorted_eq l m hl.2 hm.2 (List.Perm.cons_inv h)]
theorem isoL_eq {l m : List Prt} (h : l.Perm m) : isoL l = isoL m := sorted_eq _ _ (isoL_sorted l) (isoL_sorted m) ((isoL_perm l).trans (h.trans (isoL_perm m).symm))
end Go.Proofs.Ytgdalboilghciaa
