/- Layer 8: the reference's tables: who is found, tables without one, tables with one more, who was heard last. The conditions stand in the specifications. -/
import Derived.Test.YtgdalboilghciaaFoA
import Derived.Test.YtgdalboilghciaaRxB
set_option linter.unusedSimpArgs false
set_option linter.unusedVariables false
set_option linter.unnecessarySimpa false
set_option linter.unusedSectionVars false
set_option maxRecDepth 100000
set_option linter.unusedSimpArgs false
set_option linter.unusedVariables false
namespace Go.Proofs.Ytgdalboilghciaa
open Go.Rx
noncomputable abbrev rcL : LSpec := fUnroll P (specsOf []) (loopsOf []) Try.f50 (loopAt Try.f50 0) 9
theorem rc_loop : LoopOK P (loopAt Try.f50 0) rcL := fUnroll_ok (GammaOK.nil P) hm (Λ := loopsOf []) (LoopsOK.nil (by kernel_rfl)) _ _
def rcT : List (Int × Int) → Tree Res
  | [] => .leaf ⟨.int .i64 0, [], []⟩
  | x :: r => .ite (decide (x.1 < x.2)) (.leaf ⟨.int .i64 (-1), [], []⟩) (.ite (decide (x.1 > x.2)) (.leaf ⟨.int .i64 1, [], []⟩) (rcT r))
def rcI : List (Int × Int) → Int
  | [] => 0
  | x :: r => if (x.1 != x.2) = true then cmpI x.1 x.2 else rcI r
theorem rcT_den : ∀ l : List (Int × Int), (rcT l).denN = some ⟨.int .i64 (rcI l), [], []⟩
  | [] => rfl
  | (a, b) :: r => by
    rw [rcT, denN_ite, denN_leaf, denN_ite, denN_leaf, rcT_den r, rcI]
    show (if decide (a < b) = true then _ else if decide (a > b) = true then _ else _) = _
    unfold cmpI
    by_cases h1 : a < b
    · rw [if_pos (by simpa using h1), if_pos (by simp; omega)]
      rw [if_pos h1]
      rfl
    · rw [if_neg (by simpa using h1)]
      by_cases h2 : a > b
      · rw [if_pos (by simpa using h2), if_pos (by simp; omega), if_neg h1, if_pos h2]
        rfl
      · rw [if_neg (by simpa using h2), if_neg (by simp; omega)]
theorem rc_nf (x0 x1 x2 x3 x4 x5 x6 x7 y0 y1 y2 y3 y4 y5 y6 y7 : Int) : (fFn P (specsOf []) (loopsOf [(2, rcL)]) Try.f50 [.agg [.int .u8 x0, .int .u8 x1, .int .u8 x2, .int .u8 x3, .int .u8 x4, .int .u8 x5, .int .u8 x6, .int .u8 x7], .agg [.int .u8 y0, .int .u8 y1, .int .u8 y2, .int .u8 y3, .int .u8 y4, .int .u8 y5, .int .u8 y6, .int .u8 y7]] []).denN = (rcT [(x0, y0), (x1, y1), (x2, y2), (x3, y3), (x4, y4), (x5, y5), (x6, y6), (x7, y7)]).denN := by
  kernel_rfl
theorem rc_ok : SpecOK P 50 coS := by
  refine specOK_fast (GammaOK.nil P) hm (Λ := loopsOf [(2, rcL)]) Try.func50 (by kernel_rfl) (LoopsOK.one (by kernel_rfl) rc_loop) ?_
  intro args bs r h
  unfold coS at h
  split at h
  · rename_i x0 x1 x2 x3 x4 x5 x6 x7 y0 y1 y2 y3 y4 y5 y6 y7
    rw [denLf] at h; cases h
    exact (rc_nf x0 x1 x2 x3 x4 x5 x6 x7 y0 y1 y2 y3 y4 y5 y6 y7).trans (rcT_den _)
  · simp [den_fail] at h
abbrev rpG : List (Nat × Rx.Spec) := [(50, coS)]
def rpT (p q : Prt) : Tree Res := .ite (cmpC p.c q.c != 0) (.leaf ⟨.int .i64 (cmpC p.c q.c), [], []⟩) (rcT [(p.n, q.n)])
theorem rp_nf (p q : Prt) : (fFn P (specsOf rpG) (loopsOf []) Try.f44 [p.v, q.v] []).denN = (rpT p q).denN := by
  kernel_rfl
theorem rp_ok : SpecOK P 44 poS := by
  refine specOK_fast (.cons rc_ok (.nil P) : GammaOK P rpG) hm (Λ := loopsOf []) Try.func44 (by kernel_rfl) (LoopsOK.nil (by kernel_rfl)) ?_
  intro args bs r h
  unfold poS at h
  split at h
  · rename_i x0 x1 x2 x3 x4 x5 x6 x7 x8 y0 y1 y2 y3 y4 y5 y6 y7 y8
    rw [denLf] at h; cases h
    refine (rp_nf ⟨⟨x0, x1, x2, x3, x4, x5, x6, x7⟩, x8⟩ ⟨⟨y0, y1, y2, y3, y4, y5, y6, y7⟩, y8⟩).trans ?_
    unfold rpT cmpP
    rw [denN_ite, denN_leaf, rcT_den]
    dsimp only
    cases hc : cmpC ⟨x0, x1, x2, x3, x4, x5, x6, x7⟩ ⟨y0, y1, y2, y3, y4, y5, y6, y7⟩ != 0 with
    | true => rfl
    | false =>
      show some _ = some _
      congr 2
      show V.int .i64 (if (x8 != y8) = true then cmpI x8 y8 else 0) = V.int .i64 (cmpI x8 y8)
      by_cases h8 : x8 = y8
      · subst h8
        simp [cmpI]
      · rw [if_pos (by simpa using h8)]
  · simp [den_fail] at h
end Go.Proofs.Ytgdalboilghciaa

set_option maxRecDepth 100000
set_option linter.unusedSimpArgs false
set_option linter.unusedVariables false
namespace Go.Proofs.Ytgdalboilghciaa
open Go.Rx
/-- An entry of the reference's. -/
structure RefE where
  s : Ste
  ts : List Int
  len : Nat
  cap : Option Nat
abbrev RTab := List RefE
def refRow (id : Nat) (e : RefE) : List V := e.s.vs ++ [.sl id 0 0 1 e.len e.cap]
def rowsI : List (RefE × Nat) → List V
  | [] => []
  | x :: r => refRow x.2 x.1 ++ rowsI r
def idsF (k : Nat) : RTab → List (RefE × Nat)
  | [] => []
  | e :: r => (e, k) :: idsF (k + 1) r
def outL (nb : Nat) (l : List (RefE × Nat)) : V := match l with
  | [] => .nils
  | x :: r => .sl nb 0 0 33 (x :: r).length none
def outB (l : List (RefE × Nat)) : List Blk := match l with
  | [] => []
  | x :: r => [.cells (rowsI (x :: r))]
def refV (own : Ck) (ev : Int) (es : RTab) : V := .agg (own.vs ++ [.int .i64 ev, outL 0 (idsF 1 es)])
def tsB (es : RTab) : List Blk := es.map fun e => Body.ints .i64 e.ts
/-- A table's blocks. -/
def refB (es : RTab) : List Blk := outB (idsF 1 es) ++ tsB es
def noneL (bs : List Blk) : List (Option (Option Blk)) := bs.map fun _ => none
def fiT (bs : List Blk) (p : Prt) : RTab → Int → Tree Res
  | [], _ => .leaf ⟨.int .i64 (-1), noneL bs, []⟩
  | e :: r, k => .ite (e.s.snd.eqB p) (.leaf ⟨.int .i64 k, noneL bs, []⟩) (fiT bs p r (k + 1))
noncomputable abbrev fiLs : LSpec := fUnroll P (specsOf []) (loopsOf []) Try.f28 (loopAt Try.f28 0) 6
noncomputable abbrev fiF (a : List V) (b : List Blk) : Tree Res := fFn P (specsOf []) (loopsOf [(2, fiLs)]) Try.f28 a b
theorem fi_ok : SpecOK P 28 fiF := inl_ok (GammaOK.nil P) hm Try.func28 (by kernel_rfl) (LoopsOK.one (by kernel_rfl) (fUnroll_ok (GammaOK.nil P) hm (Λ := loopsOf []) (LoopsOK.nil (by kernel_rfl)) _ _))
noncomputable abbrev woLs : LSpec := fUnroll P (specsOf []) (loopsOf []) Try.f29 (loopAt Try.f29 0) 6
noncomputable abbrev woF (a : List V) (b : List Blk) : Tree Res := fFn P (specsOf []) (loopsOf [(3, woLs)]) Try.f29 a b
theorem wo_ok : SpecOK P 29 woF := inl_ok (GammaOK.nil P) hm Try.func29 (by kernel_rfl) (LoopsOK.one (by kernel_rfl) (fUnroll_ok (GammaOK.nil P) hm (Λ := loopsOf []) (LoopsOK.nil (by kernel_rfl)) _ _))
def woR (own : Ck) (ev : Int) (es : RTab) (j : Nat) : Res := ⟨.agg (own.vs ++ [.int .i64 ev, outL (refB es).length ((idsF 1 es).eraseIdx j)]), noneL (refB es), outB ((idsF 1 es).eraseIdx j)⟩
abbrev wtG : List (Nat × Rx.Spec) := [(44, poS)]
theorem wtG_ok : GammaOK P wtG := .cons rp_ok (.nil P)
noncomputable abbrev wtLs : LSpec := fUnroll P (specsOf wtG) (loopsOf []) Try.f36 (loopAt Try.f36 0) 6
noncomputable abbrev wtF (a : List V) (b : List Blk) : Tree Res := fFn P (specsOf wtG) (loopsOf [(4, wtLs)]) Try.f36 a b
theorem wt_ok : SpecOK P 36 wtF := inl_ok wtG_ok hm Try.func36 (by kernel_rfl) (LoopsOK.one (by kernel_rfl) (fUnroll_ok wtG_ok hm (Λ := loopsOf []) (LoopsOK.nil (by kernel_rfl)) _ _))
/-- Where an entry's times lie behind a table's slice. -/
def atX (es : RTab) : Nat := match es with
  | [] => 0
  | _ :: _ => 1
def wtA (own : Ck) (ev : Int) (es : RTab) (e : RefE) : List V := [.agg (own.vs ++ [.int .i64 ev, outL 0 (idsF 2 es)]), .agg (refRow (atX es) e)]
def wtB (es : RTab) (e : RefE) : List Blk := outB (idsF 2 es) ++ .ints .i64 e.ts :: tsB es
def wtR (own : Ck) (ev : Int) (es : RTab) (e : RefE) (j : Nat) : Res := ⟨.agg (own.vs ++ [.int .i64 ev, outL (wtB es e).length ((idsF 2 es).insertIdx j (e, atX es))]), noneL (wtB es e), outB ((idsF 2 es).insertIdx j (e, atX es))⟩
def wtT (own : Ck) (ev : Int) (es : RTab) (e : RefE) : RTab → Nat → Tree Res
  | [], j => .leaf (wtR own ev es e j)
  | x :: r, j => .ite (decide (cmpP e.s.snd x.s.snd < 0)) (.leaf (wtR own ev es e j)) (wtT own ev es e r (j + 1))
theorem fi_0 (own : Ck) (ev : Int) (p : Prt)  : Tree.denN (fiF [refV own ev [], p.v] (refB [])) = Tree.denN (fiT (refB []) p [] 0) := by
  kernel_rfl
theorem fi_1 (own : Ck) (ev : Int) (p : Prt) (a0 : RefE) : Tree.denN (fiF [refV own ev [a0], p.v] (refB [a0])) = Tree.denN (fiT (refB [a0]) p [a0] 0) := by
  kernel_rfl
theorem fi_2 (own : Ck) (ev : Int) (p : Prt) (a0 a1 : RefE) : Tree.denN (fiF [refV own ev [a0, a1], p.v] (refB [a0, a1])) = Tree.denN (fiT (refB [a0, a1]) p [a0, a1] 0) := by
  kernel_rfl
theorem fi_3 (own : Ck) (ev : Int) (p : Prt) (a0 a1 a2 : RefE) : Tree.denN (fiF [refV own ev [a0, a1, a2], p.v] (refB [a0, a1, a2])) = Tree.denN (fiT (refB [a0, a1, a2]) p [a0, a1, a2] 0) := by
  kernel_rfl
theorem fi_4 (own : Ck) (ev : Int) (p : Prt) (a0 a1 a2 a3 : RefE) : Tree.denN (fiF [refV own ev [a0, a1, a2, a3], p.v] (refB [a0, a1, a2, a3])) = Tree.denN (fiT (refB [a0, a1, a2, a3]) p [a0, a1, a2, a3] 0) := by
  kernel_rfl
theorem fi_5 (own : Ck) (ev : Int) (p : Prt) (a0 a1 a2 a3 a4 : RefE) : Tree.denN (fiF [refV own ev [a0, a1, a2, a3, a4], p.v] (refB [a0, a1, a2, a3, a4])) = Tree.denN (fiT (refB [a0, a1, a2, a3, a4]) p [a0, a1, a2, a3, a4] 0) := by
  kernel_rfl
theorem wo_1_0 (own : Ck) (ev : Int) (a0 : RefE) : Tree.denN (woF [refV own ev [a0], .int .i64 0] (refB [a0])) = Tree.denN (.leaf (woR own ev [a0] 0)) := by
  kernel_rfl
theorem wo_2_0 (own : Ck) (ev : Int) (a0 a1 : RefE) : Tree.denN (woF [refV own ev [a0, a1], .int .i64 0] (refB [a0, a1])) = Tree.denN (.leaf (woR own ev [a0, a1] 0)) := by
  kernel_rfl
theorem wo_2_1 (own : Ck) (ev : Int) (a0 a1 : RefE) : Tree.denN (woF [refV own ev [a0, a1], .int .i64 1] (refB [a0, a1])) = Tree.denN (.leaf (woR own ev [a0, a1] 1)) := by
  kernel_rfl
theorem wo_3_0 (own : Ck) (ev : Int) (a0 a1 a2 : RefE) : Tree.denN (woF [refV own ev [a0, a1, a2], .int .i64 0] (refB [a0, a1, a2])) = Tree.denN (.leaf (woR own ev [a0, a1, a2] 0)) := by
  kernel_rfl
theorem wo_3_1 (own : Ck) (ev : Int) (a0 a1 a2 : RefE) : Tree.denN (woF [refV own ev [a0, a1, a2], .int .i64 1] (refB [a0, a1, a2])) = Tree.denN (.leaf (woR own ev [a0, a1, a2] 1)) := by
  kernel_rfl
theorem wo_3_2 (own : Ck) (ev : Int) (a0 a1 a2 : RefE) : Tree.denN (woF [refV own ev [a0, a1, a2], .int .i64 2] (refB [a0, a1, a2])) = Tree.denN (.leaf (woR own ev [a0, a1, a2] 2)) := by
  kernel_rfl
theorem wo_4_0 (own : Ck) (ev : Int) (a0 a1 a2 a3 : RefE) : Tree.denN (woF [refV own ev [a0, a1, a2, a3], .int .i64 0] (refB [a0, a1, a2, a3])) = Tree.denN (.leaf (woR own ev [a0, a1, a2, a3] 0)) := by
  kernel_rfl
theorem wo_4_1 (own : Ck) (ev : Int) (a0 a1 a2 a3 : RefE) : Tree.denN (woF [refV own ev [a0, a1, a2, a3], .int .i64 1] (refB [a0, a1, a2, a3])) = Tree.denN (.leaf (woR own ev [a0, a1, a2, a3] 1)) := by
  kernel_rfl
theorem wo_4_2 (own : Ck) (ev : Int) (a0 a1 a2 a3 : RefE) : Tree.denN (woF [refV own ev [a0, a1, a2, a3], .int .i64 2] (refB [a0, a1, a2, a3])) = Tree.denN (.leaf (woR own ev [a0, a1, a2, a3] 2)) := by
  kernel_rfl
theorem wo_4_3 (own : Ck) (ev : Int) (a0 a1 a2 a3 : RefE) : Tree.denN (woF [refV own ev [a0, a1, a2, a3], .int .i64 3] (refB [a0, a1, a2, a3])) = Tree.denN (.leaf (woR own ev [a0, a1, a2, a3] 3)) := by
  kernel_rfl
theorem wo_5_0 (own : Ck) (ev : Int) (a0 a1 a2 a3 a4 : RefE) : Tree.denN (woF [refV own ev [a0, a1, a2, a3, a4], .int .i64 0] (refB [a0, a1, a2, a3, a4])) = Tree.denN (.leaf (woR own ev [a0, a1, a2, a3, a4] 0)) := by
  kernel_rfl
theorem wo_5_1 (own : Ck) (ev : Int) (a0 a1 a2 a3 a4 : RefE) : Tree.denN (woF [refV own ev [a0, a1, a2, a3, a4], .int .i64 1] (refB [a0, a1, a2, a3, a4])) = Tree.denN (.leaf (woR own ev [a0, a1, a2, a3, a4] 1)) := by
  kernel_rfl
theorem wo_5_2 (own : Ck) (ev : Int) (a0 a1 a2 a3 a4 : RefE) : Tree.denN (woF [refV own ev [a0, a1, a2, a3, a4], .int .i64 2] (refB [a0, a1, a2, a3, a4])) = Tree.denN (.leaf (woR own ev [a0, a1, a2, a3, a4] 2)) := by
  kernel_rfl
theorem wo_5_3 (own : Ck) (ev : Int) (a0 a1 a2 a3 a4 : RefE) : Tree.denN (woF [refV own ev [a0, a1, a2, a3, a4], .int .i64 3] (refB [a0, a1, a2, a3, a4])) = Tree.denN (.leaf (woR own ev [a0, a1, a2, a3, a4] 3)) := by
  kernel_rfl
theorem wo_5_4 (own : Ck) (ev : Int) (a0 a1 a2 a3 a4 : RefE) : Tree.denN (woF [refV own ev [a0, a1, a2, a3, a4], .int .i64 4] (refB [a0, a1, a2, a3, a4])) = Tree.denN (.leaf (woR own ev [a0, a1, a2, a3, a4] 4)) := by
  kernel_rfl
theorem wt_0 (own : Ck) (ev : Int) (e : RefE)  : Tree.denN (wtF (wtA own ev [] e) (wtB [] e)) = Tree.denN (wtT own ev [] e [] 0) := by
  kernel_rfl
theorem wt_1 (own : Ck) (ev : Int) (e : RefE) (a0 : RefE) : Tree.denN (wtF (wtA own ev [a0] e) (wtB [a0] e)) = Tree.denN (wtT own ev [a0] e [a0] 0) := by
  kernel_rfl
theorem wt_2 (own : Ck) (ev : Int) (e : RefE) (a0 a1 : RefE) : Tree.denN (wtF (wtA own ev [a0, a1] e) (wtB [a0, a1] e)) = Tree.denN (wtT own ev [a0, a1] e [a0, a1] 0) := by
  kernel_rfl
theorem wt_3 (own : Ck) (ev : Int) (e : RefE) (a0 a1 a2 : RefE) : Tree.denN (wtF (wtA own ev [a0, a1, a2] e) (wtB [a0, a1, a2] e)) = Tree.denN (wtT own ev [a0, a1, a2] e [a0, a1, a2] 0) := by
  kernel_rfl
theorem wt_4 (own : Ck) (ev : Int) (e : RefE) (a0 a1 a2 a3 : RefE) : Tree.denN (wtF (wtA own ev [a0, a1, a2, a3] e) (wtB [a0, a1, a2, a3] e)) = Tree.denN (wtT own ev [a0, a1, a2, a3] e [a0, a1, a2, a3] 0) := by
  kernel_rfl
end Go.Proofs.Ytgdalboilghciaa

set_option maxRecDepth 100000
set_option linter.unusedSimpArgs false
set_option linter.unusedVariables false
namespace Go.Proofs.Ytgdalboilghciaa
open Go.Rx
def okE (len : Nat) (ts : List Int) : Bool := decide (1 ≤ len) && (decide (len = ts.length) && decide (len ≤ 1000000))
def lastT (ts : List Int) : Int := ts.getD (ts.length - 1) 0
def rlS : Rx.Spec := fun a b => match a, b with
  | [.agg l], [.ints .i64 ts] => match Ste.p l with
    | some (s, [.sl 0 0 0 1 len cap]) => .need (okE len ts) (.leaf ⟨.int .i64 (lastT ts), [none], []⟩)
    | _ => .fail
  | _, _ => .fail
def rlT (len : Nat) (ts : List Int) : Tree Res :=
  .ite (decide (0 ≤ IntKind.i64.wrap ((len : Int) - 1)) && decide (IntKind.i64.wrap ((len : Int) - 1) < (len : Int))) (.ite (decide (0 + (IntKind.i64.wrap ((len : Int) - 1)).toNat + 1 ≤ ts.length)) (.leaf ⟨.int .i64 (ts.getD (0 + (IntKind.i64.wrap ((len : Int) - 1)).toNat + 0) 0), [none], []⟩) .fail) .fail
theorem rl_nf (e : RefE) : Tree.denN (fFn P (specsOf []) (loopsOf []) Try.f30 [.agg (refRow 0 e)] [.ints .i64 e.ts]) = Tree.denN (rlT e.len e.ts) := by
  kernel_rfl
theorem rlT_den {len : Nat} {ts : List Int} (h : okE len ts = true) : (rlT len ts).denN = some (Res.nrm ⟨.int .i64 (lastT ts), [none], []⟩) := by
  unfold okE at h
  simp only [Bool.and_eq_true, decide_eq_true_eq] at h
  obtain ⟨h1, h2, h3⟩ := h
  have w : IntKind.i64.wrap ((len : Int) - 1) = ((len - 1 : Nat) : Int) := by rw [wrap64_id (by omega) (by omega)]; omega
  unfold rlT
  rw [w, decide_eq_true (show (0 : Int) ≤ ((len - 1 : Nat) : Int) by omega), decide_eq_true (show ((len - 1 : Nat) : Int) < (len : Int) by omega), decide_eq_true (show 0 + (((len - 1 : Nat) : Int)).toNat + 1 ≤ ts.length by rw [Int.toNat_natCast]; omega), Int.toNat_natCast]
  show some _ = some _
  unfold lastT
  rw [← h2, Nat.zero_add, Nat.add_zero]
theorem rl_ok : SpecOK P 30 rlS := by
  refine specOK_fast (GammaOK.nil P) hm (Λ := loopsOf []) Try.func30 (by kernel_rfl) (LoopsOK.nil (by kernel_rfl)) ?_
  intro args bs r h
  unfold rlS at h
  split at h
  · rename_i l ts
    split at h
    · rename_i s len cap hp
      have hp := Ste.p_eq hp
      subst hp
      rw [den_need, denLf] at h
      obtain ⟨h1, h⟩ := h
      cases h
      exact (rl_nf ⟨s, ts, len, cap⟩).trans (rlT_den h1)
    · simp [den_fail] at h
  · simp [den_fail] at h
abbrev roG : List (Nat × Rx.Spec) := [(30, rlS)]
theorem roG_ok : GammaOK P roG := .cons rl_ok (.nil P)
def roC (ev now : Int) (e : RefE) : Bool := decide (lastT e.ts ≤ IntKind.i64.wrap (now - IntKind.i64.wrap (4 * ev)))
abbrev roV (now out i : Int) : List V := [.int .i64 now, .ptr 0 0 0 0, .int .i64 out, .int .i64 i]
def roB (own : Ck) (ev : Int) (es : RTab) : List Blk := Body.cells (own.vs ++ [.int .i64 ev, outL 1 (idsF 2 es)]) :: (outB (idsF 2 es) ++ tsB es)
noncomputable abbrev roRd (vals : List V) (bs : List Blk) : Tree LRes := evRound P (specsOf roG) (loopsOf []) 47 [1, 2, 5, 6] [5] (loopAt Try.f37 0) vals bs
def roL (now out i : Int) : LRes := ⟨.nrm, roV now out i, [none, none, none, none, none, none, none], []⟩
def roX (out : Int) : LRes := ⟨.exit 0, [.int .i64 out], [none, none, none, none, none, none, none], []⟩
def roR0 (ev now : Int) (e : RefE) (i : Int) : Tree LRes := .need (okE e.len e.ts) (.ite (roC ev now e) (.leaf (roL now i (i + 1))) (.leaf (roL now (-1) (i + 1))))
def roR1 (ev now : Int) (e x : RefE) (i out : Int) : Tree LRes := .need (okE e.len e.ts) (.ite (roC ev now e) (.need (okE e.len e.ts) (.need (okE x.len x.ts) (.ite (decide (lastT e.ts < lastT x.ts)) (.leaf (roL now i (i + 1))) (.leaf (roL now out (i + 1)))))) (.leaf (roL now out (i + 1))))
theorem ror_0 (own : Ck) (ev now : Int) (a0 a1 a2 a3 a4 : RefE) : (roRd (roV now (-1) 0) (roB own ev [a0, a1, a2, a3, a4])).den = (roR0 ev now a0 0).den := by
  kernel_rfl
theorem ror_1 (own : Ck) (ev now : Int) (a0 a1 a2 a3 a4 : RefE) : (roRd (roV now (-1) 1) (roB own ev [a0, a1, a2, a3, a4])).den = (roR0 ev now a1 1).den := by
  kernel_rfl
theorem ror_1_0 (own : Ck) (ev now : Int) (a0 a1 a2 a3 a4 : RefE) : (roRd (roV now 0 1) (roB own ev [a0, a1, a2, a3, a4])).den = (roR1 ev now a1 a0 1 0).den := by
  kernel_rfl
theorem ror_2 (own : Ck) (ev now : Int) (a0 a1 a2 a3 a4 : RefE) : (roRd (roV now (-1) 2) (roB own ev [a0, a1, a2, a3, a4])).den = (roR0 ev now a2 2).den := by
  kernel_rfl
theorem ror_2_0 (own : Ck) (ev now : Int) (a0 a1 a2 a3 a4 : RefE) : (roRd (roV now 0 2) (roB own ev [a0, a1, a2, a3, a4])).den = (roR1 ev now a2 a0 2 0).den := by
  kernel_rfl
theorem ror_2_1 (own : Ck) (ev now : Int) (a0 a1 a2 a3 a4 : RefE) : (roRd (roV now 1 2) (roB own ev [a0, a1, a2, a3, a4])).den = (roR1 ev now a2 a1 2 1).den := by
  kernel_rfl
theorem ror_3 (own : Ck) (ev now : Int) (a0 a1 a2 a3 a4 : RefE) : (roRd (roV now (-1) 3) (roB own ev [a0, a1, a2, a3, a4])).den = (roR0 ev now a3 3).den := by
  kernel_rfl
theorem ror_3_0 (own : Ck) (ev now : Int) (a0 a1 a2 a3 a4 : RefE) : (roRd (roV now 0 3) (roB own ev [a0, a1, a2, a3, a4])).den = (roR1 ev now a3 a0 3 0).den := by
  kernel_rfl
theorem ror_3_1 (own : Ck) (ev now : Int) (a0 a1 a2 a3 a4 : RefE) : (roRd (roV now 1 3) (roB own ev [a0, a1, a2, a3, a4])).den = (roR1 ev now a3 a1 3 1).den := by
  kernel_rfl
theorem ror_3_2 (own : Ck) (ev now : Int) (a0 a1 a2 a3 a4 : RefE) : (roRd (roV now 2 3) (roB own ev [a0, a1, a2, a3, a4])).den = (roR1 ev now a3 a2 3 2).den := by
  kernel_rfl
theorem ror_4 (own : Ck) (ev now : Int) (a0 a1 a2 a3 a4 : RefE) : (roRd (roV now (-1) 4) (roB own ev [a0, a1, a2, a3, a4])).den = (roR0 ev now a4 4).den := by
  kernel_rfl
theorem ror_4_0 (own : Ck) (ev now : Int) (a0 a1 a2 a3 a4 : RefE) : (roRd (roV now 0 4) (roB own ev [a0, a1, a2, a3, a4])).den = (roR1 ev now a4 a0 4 0).den := by
  kernel_rfl
theorem ror_4_1 (own : Ck) (ev now : Int) (a0 a1 a2 a3 a4 : RefE) : (roRd (roV now 1 4) (roB own ev [a0, a1, a2, a3, a4])).den = (roR1 ev now a4 a1 4 1).den := by
  kernel_rfl
theorem ror_4_2 (own : Ck) (ev now : Int) (a0 a1 a2 a3 a4 : RefE) : (roRd (roV now 2 4) (roB own ev [a0, a1, a2, a3, a4])).den = (roR1 ev now a4 a2 4 2).den := by
  kernel_rfl
theorem ror_4_3 (own : Ck) (ev now : Int) (a0 a1 a2 a3 a4 : RefE) : (roRd (roV now 3 4) (roB own ev [a0, a1, a2, a3, a4])).den = (roR1 ev now a4 a3 4 3).den := by
  kernel_rfl
theorem rox (own : Ck) (ev now out : Int) (a0 a1 a2 a3 a4 : RefE) : (roRd (roV now out 5) (roB own ev [a0, a1, a2, a3, a4])).den = some (roX out) := by
  kernel_rfl
/-- Who is over longest, by the document. -/
def roO (ev now : Int) : RTab → Int → Option (RefE × Int) → Int
  | [], _, none => -1
  | [], _, some x => x.2
  | e :: r, i, none => match roC ev now e with
    | true => roO ev now r (i + 1) (some (e, i))
    | false => roO ev now r (i + 1) none
  | e :: r, i, some x => match roC ev now e && decide (lastT e.ts < lastT x.1.ts) with
    | true => roO ev now r (i + 1) (some (e, i))
    | false => roO ev now r (i + 1) (some x)
end Go.Proofs.Ytgdalboilghciaa
