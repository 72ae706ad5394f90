/- Layer 8: who was heard often; a new table; a call on a table; a master that is heard often. The conditions stand in the specifications. -/
import Derived.Test.YtgdalboilghciaaFoD
set_option linter.unusedSimpArgs false
set_option linter.unusedVariables false
set_option linter.unnecessarySimpa false
set_option linter.unusedSectionVars false
set_option maxRecDepth 100000
set_option linter.unusedSimpArgs false
set_option linter.unusedVariables false
namespace Go.Proofs.Ytgdalboilghciaa
open Go.Rx
abbrev stK : List K := [.int .i64, .int .i64, .int .i64, .int .i64, .int .i64, .int .u8, .int .u8, .int .u8, .int .u8, .int .u8, .int .u8, .int .u8, .int .u8, .int .i64, .int .u8, .int .u8, .int .u8, .int .u8, .int .u8, .int .u8, .int .u8, .int .u8, .int .i64, .int .u8, .int .u8, .int .u8, .int .u8, .int .u8, .int .u8, .int .u8, .int .u8, .int .i64]
/-- A table's blocks: its own one, others, then the map from the k-th on. -/
def tabC (k : Nat) (own : Ck) (win : Int) : Blk := Body.cells (own.vs ++ [.int .i64 win, .mapr k])
def tabM (k : Nat) (es : TabE) : List Blk := Body.kv (es.map fun x => x.1.v) (ptrsF (k + 1) es.length) :: es.map fun x => Body.cells x.2.vs
abbrev qV (now : Int) (m n : Nat) (k : Int) : List V := [.ptr 0 0 0 0, .int .i64 now, .sl 1 0 0 32 m none, .sl 2 0 0 9 n none, .int .i64 (n : Int), .int .i64 k]
abbrev qBl (qs rs : List (List V)) (own : Ck) (win : Int) (es : TabE) : List Blk := tabC 3 own win :: Body.rows stK qs :: Body.rows pK rs :: tabM 3 es
noncomputable abbrev qRd (vals : List V) (bs : List Blk) : Tree LRes := evRound P (specsOf []) (loopsOf [(8, qInL)]) 65 [0, 1, 5, 13, 14, 15] [5] (loopAt Try.f12 0) vals bs
noncomputable abbrev qLN (f : Nat) (vals : List V) (bs : List Blk) : Tree LRes := loopN P (specsOf []) (loopsOf [(8, qInL)]) 65 [0, 1, 5, 13, 14, 15] [5] (loopAt Try.f12 0) f vals bs
def wfE (es : TabE) : Bool := es.all fun e => decide (0 ≤ e.2.m) && decide (e.2.m ≤ 2)
def qC (now win : Int) (x : Prt) : TabE → Bool
  | [] => false
  | e :: r => match x.eqB e.1 with
    | true => cntE e.2 e.2.m.toNat now win == 2
    | false => qC now win x r
def quF (now win : Int) (es : TabE) (l : List Prt) : List Ste := (l.filter fun x => qC now win x es).map fun x => (lastE x es).1
theorem vsxS (x : Ste) : (V.int IntKind.i64 x.p1 :: V.int IntKind.i64 x.p2 :: V.int IntKind.i64 x.q.cl :: V.int IntKind.i64 x.q.ac :: V.int IntKind.i64 x.q.va :: V.int IntKind.u8 x.g.b0 :: V.int IntKind.u8 x.g.b1 :: V.int IntKind.u8 x.g.b2 :: V.int IntKind.u8 x.g.b3 :: V.int IntKind.u8 x.g.b4 :: V.int IntKind.u8 x.g.b5 :: V.int IntKind.u8 x.g.b6 :: V.int IntKind.u8 x.g.b7 :: V.int IntKind.i64 x.st :: V.int IntKind.u8 x.snd.c.b0 :: V.int IntKind.u8 x.snd.c.b1 :: V.int IntKind.u8 x.snd.c.b2 :: V.int IntKind.u8 x.snd.c.b3 :: V.int IntKind.u8 x.snd.c.b4 :: V.int IntKind.u8 x.snd.c.b5 :: V.int IntKind.u8 x.snd.c.b6 :: V.int IntKind.u8 x.snd.c.b7 :: V.int IntKind.i64 x.snd.n :: x.rcv.vs) = x.vs := rfl
theorem appS (q : List Ste) (s : Ste) : q.map Ste.vs ++ [s.vs] = (q ++ [s]).map Ste.vs := by simp
def resQ (n m : Nat) (tot : List Ste) : Bool → LRes
  | false => ⟨.exit 0, [.sl 1 0 0 32 m none], List.replicate (n + 4) none, []⟩
  | true => ⟨.exit 0, [.sl (n + 4) 0 0 32 tot.length none], none :: some none :: List.replicate (n + 2) none, [.rows stK (tot.map Ste.vs)]⟩
theorem qr_0 (own : Ck) (win now i : Int) (rs qs : List (List V)) (m : Nat)  : (qRd (qV now m 0 i) (qBl qs rs own win [])).den = Tree.den (Tree.ite (decide (i < 0)) (Tree.ite (decide (0 ≤ i) && decide (i < 0)) (Tree.ite (decide (0 + i.toNat < rs.length)) Tree.fail Tree.fail) Tree.fail) (Tree.leaf { e := Ex.exit 0, vs := [V.sl 1 0 0 32 m none], upd := [none, none, none, none], new := [] })) := by
  kernel_rfl
theorem qa_0 (own : Ck) (win now : Int) (l : List Prt)  (hl : l.length = 0) (hi : ∀ x ∈ l, inE x [] = true) (hw : wfE [] = true) :
    ∀ (rest : List Prt) (k : Nat) (q : List Ste), l.drop k = rest → k ≤ 0 → q.length ≤ k →
    ∃ f, (qLN f (qV now q.length 0 k) (qBl (q.map Ste.vs) (l.map Prt.vs) own win [])).den = some (resQ 0 q.length (q ++ quF now win [] rest) (!(quF now win [] rest).isEmpty)) := by
  intro rest
  induction rest with
  | nil =>
    intro k q hd hk hq
    have hk5 : k = 0 := by
      have := congrArg List.length hd
      rw [List.length_drop, hl, List.length_nil] at this
      omega
    subst hk5
    refine ⟨1, ?_⟩
    have hx := qr_0 own win now ((0 : Nat) : Int) (l.map Prt.vs) (q.map Ste.vs) q.length  
    rw [decide_eq_false (show ¬ ((0 : Nat) : Int) < (0 : Int) by decide)] at hx
    exact loopN_end hx (by show Ex.exit 0 ≠ Ex.nrm; decide)
  | cons x rest ih =>
    intro k q hd hk hq
    obtain ⟨hx, hd', hkl⟩ := drop_cons hd
    omega
theorem qr_1 (own : Ck) (win now i : Int) (rs qs : List (List V)) (m : Nat) (p0 : Prt) (e0 : Ent) : (qRd (qV now m 1 i) (qBl qs rs own win [(p0, e0)])).den = Tree.den (Tree.ite (decide (i < 1)) (Tree.ite (decide (0 ≤ i) && decide (i < 1)) (Tree.ite (decide (0 + i.toNat < rs.length)) (Tree.ite ((V.toInt ((rs.getD (0 + i.toNat) []).getD 0 V.any)) == p0.c.1 && ((V.toInt ((rs.getD (0 + i.toNat) []).getD 1 V.any)) == p0.c.2 && ((V.toInt ((rs.getD (0 + i.toNat) []).getD 2 V.any)) == p0.c.3 && ((V.toInt ((rs.getD (0 + i.toNat) []).getD 3 V.any)) == p0.c.4 && ((V.toInt ((rs.getD (0 + i.toNat) []).getD 4 V.any)) == p0.c.5 && ((V.toInt ((rs.getD (0 + i.toNat) []).getD 5 V.any)) == p0.c.6 && ((V.toInt ((rs.getD (0 + i.toNat) []).getD 6 V.any)) == p0.c.7 && ((V.toInt ((rs.getD (0 + i.toNat) []).getD 7 V.any)) == p0.c.8 && true))))))) && ((V.toInt ((rs.getD (0 + i.toNat) []).getD 8 V.any)) == p0.2 && true)) (Tree.ite (true && decide (0 ≤ e0.m) && decide (e0.m ≤ 2)) (Tree.ite (decide (e0.m.toNat - 0 ≤ 2) && decide ((↑(e0.m.toNat - 0) : Int) = (↑(e0.m.toNat - 0) : Int))) (Tree.ite (cntE e0 (e0.m.toNat - 0) now win == 2) (Tree.ite (decide (0 + m ≤ qs.length) && true) (Tree.ite (decide ((List.take m (List.drop 0 qs) ++ [[V.int IntKind.i64 e0.s.1, V.int IntKind.i64 e0.s.2, V.int IntKind.i64 e0.s.q.1, V.int IntKind.i64 e0.s.q.2, V.int IntKind.i64 e0.s.q.3, V.int IntKind.u8 e0.s.g.1, V.int IntKind.u8 e0.s.g.2, V.int IntKind.u8 e0.s.g.3, V.int IntKind.u8 e0.s.g.4, V.int IntKind.u8 e0.s.g.5, V.int IntKind.u8 e0.s.g.6, V.int IntKind.u8 e0.s.g.7, V.int IntKind.u8 e0.s.g.8, V.int IntKind.i64 e0.s.5, V.int IntKind.u8 e0.s.snd.c.1, V.int IntKind.u8 e0.s.snd.c.2, V.int IntKind.u8 e0.s.snd.c.3, V.int IntKind.u8 e0.s.snd.c.4, V.int IntKind.u8 e0.s.snd.c.5, V.int IntKind.u8 e0.s.snd.c.6, V.int IntKind.u8 e0.s.snd.c.7, V.int IntKind.u8 e0.s.snd.c.8, V.int IntKind.i64 e0.s.snd.2, V.int IntKind.u8 e0.s.rcv.c.1, V.int IntKind.u8 e0.s.rcv.c.2, V.int IntKind.u8 e0.s.rcv.c.3, V.int IntKind.u8 e0.s.rcv.c.4, V.int IntKind.u8 e0.s.rcv.c.5, V.int IntKind.u8 e0.s.rcv.c.6, V.int IntKind.u8 e0.s.rcv.c.7, V.int IntKind.u8 e0.s.rcv.c.8, V.int IntKind.i64 e0.s.rcv.2]]).length * 88 ≤ 140737488355328)) (Tree.leaf { e := Ex.nrm, vs := [V.ptr 0 0 0 0, V.int IntKind.i64 now, V.sl 5 0 0 32 (List.take m (List.drop 0 qs) ++ [[V.int IntKind.i64 e0.s.1, V.int IntKind.i64 e0.s.2, V.int IntKind.i64 e0.s.q.1, V.int IntKind.i64 e0.s.q.2, V.int IntKind.i64 e0.s.q.3, V.int IntKind.u8 e0.s.g.1, V.int IntKind.u8 e0.s.g.2, V.int IntKind.u8 e0.s.g.3, V.int IntKind.u8 e0.s.g.4, V.int IntKind.u8 e0.s.g.5, V.int IntKind.u8 e0.s.g.6, V.int IntKind.u8 e0.s.g.7, V.int IntKind.u8 e0.s.g.8, V.int IntKind.i64 e0.s.5, V.int IntKind.u8 e0.s.snd.c.1, V.int IntKind.u8 e0.s.snd.c.2, V.int IntKind.u8 e0.s.snd.c.3, V.int IntKind.u8 e0.s.snd.c.4, V.int IntKind.u8 e0.s.snd.c.5, V.int IntKind.u8 e0.s.snd.c.6, V.int IntKind.u8 e0.s.snd.c.7, V.int IntKind.u8 e0.s.snd.c.8, V.int IntKind.i64 e0.s.snd.2, V.int IntKind.u8 e0.s.rcv.c.1, V.int IntKind.u8 e0.s.rcv.c.2, V.int IntKind.u8 e0.s.rcv.c.3, V.int IntKind.u8 e0.s.rcv.c.4, V.int IntKind.u8 e0.s.rcv.c.5, V.int IntKind.u8 e0.s.rcv.c.6, V.int IntKind.u8 e0.s.rcv.c.7, V.int IntKind.u8 e0.s.rcv.c.8, V.int IntKind.i64 e0.s.rcv.2]]).length none, V.sl 2 0 0 9 1 none, V.int IntKind.i64 1, V.int IntKind.i64 (IntKind.i64.wrap (i + 1))], upd := [none, some none, none, none, none], new := [Body.rows [K.int IntKind.i64, K.int IntKind.i64, K.int IntKind.i64, K.int IntKind.i64, K.int IntKind.i64, K.int IntKind.u8, K.int IntKind.u8, K.int IntKind.u8, K.int IntKind.u8, K.int IntKind.u8, K.int IntKind.u8, K.int IntKind.u8, K.int IntKind.u8, K.int IntKind.i64, K.int IntKind.u8, K.int IntKind.u8, K.int IntKind.u8, K.int IntKind.u8, K.int IntKind.u8, K.int IntKind.u8, K.int IntKind.u8, K.int IntKind.u8, K.int IntKind.i64, K.int IntKind.u8, K.int IntKind.u8, K.int IntKind.u8, K.int IntKind.u8, K.int IntKind.u8, K.int IntKind.u8, K.int IntKind.u8, K.int IntKind.u8, K.int IntKind.i64] (List.take m (List.drop 0 qs) ++ [[V.int IntKind.i64 e0.s.1, V.int IntKind.i64 e0.s.2, V.int IntKind.i64 e0.s.q.1, V.int IntKind.i64 e0.s.q.2, V.int IntKind.i64 e0.s.q.3, V.int IntKind.u8 e0.s.g.1, V.int IntKind.u8 e0.s.g.2, V.int IntKind.u8 e0.s.g.3, V.int IntKind.u8 e0.s.g.4, V.int IntKind.u8 e0.s.g.5, V.int IntKind.u8 e0.s.g.6, V.int IntKind.u8 e0.s.g.7, V.int IntKind.u8 e0.s.g.8, V.int IntKind.i64 e0.s.5, V.int IntKind.u8 e0.s.snd.c.1, V.int IntKind.u8 e0.s.snd.c.2, V.int IntKind.u8 e0.s.snd.c.3, V.int IntKind.u8 e0.s.snd.c.4, V.int IntKind.u8 e0.s.snd.c.5, V.int IntKind.u8 e0.s.snd.c.6, V.int IntKind.u8 e0.s.snd.c.7, V.int IntKind.u8 e0.s.snd.c.8, V.int IntKind.i64 e0.s.snd.2, V.int IntKind.u8 e0.s.rcv.c.1, V.int IntKind.u8 e0.s.rcv.c.2, V.int IntKind.u8 e0.s.rcv.c.3, V.int IntKind.u8 e0.s.rcv.c.4, V.int IntKind.u8 e0.s.rcv.c.5, V.int IntKind.u8 e0.s.rcv.c.6, V.int IntKind.u8 e0.s.rcv.c.7, V.int IntKind.u8 e0.s.rcv.c.8, V.int IntKind.i64 e0.s.rcv.2]])] }) Tree.fail) Tree.fail) (Tree.leaf { e := Ex.nrm, vs := [V.ptr 0 0 0 0, V.int IntKind.i64 now, V.sl 1 0 0 32 m none, V.sl 2 0 0 9 1 none, V.int IntKind.i64 1, V.int IntKind.i64 (IntKind.i64.wrap (i + 1))], upd := [none, none, none, none, none], new := [] })) Tree.fail) Tree.fail) Tree.fail) Tree.fail) Tree.fail) (Tree.leaf { e := Ex.exit 0, vs := [V.sl 1 0 0 32 m none], upd := [none, none, none, none, none], new := [] })) := by
  kernel_rfl
theorem qs_1 (own : Ck) (win now : Int) (k : Nat) (l : List Prt) (q : List Ste) (x : Prt) (p0 : Prt) (e0 : Ent) (hx : l[k]? = some x) (hk : k < 1) (hq : q.length < 1000) (hi : inE x [(p0, e0)] = true) (hw : wfE [(p0, e0)] = true) :
    (qRd (qV now q.length 1 k) (qBl (q.map Ste.vs) (l.map Prt.vs) own win [(p0, e0)])).den = some (match qC now win x [(p0, e0)] with
      | true => ⟨.nrm, qV now q.length 1 (k + 1 : Nat) |>.set 2 (.sl 5 0 0 32 (q ++ [(lastE x [(p0, e0)]).1]).length none), none :: some none :: List.replicate 3 none, [.rows stK ((q ++ [(lastE x [(p0, e0)]).1]).map Ste.vs)]⟩
      | false => ⟨.nrm, qV now q.length 1 (k + 1 : Nat), List.replicate 5 none, []⟩) := by
  have st := qr_1 own win now k (l.map Prt.vs) (q.map Ste.vs) q.length p0 e0
  have ht : List.take q.length (List.drop 0 (q.map Ste.vs)) = q.map Ste.vs := by rw [List.drop_zero]; exact List.take_of_length_le (by simp)
  have hgi : (l.map Prt.vs).getD k [] = x.vs := by
    rw [List.getD_eq_getElem?_getD, List.getElem?_map, hx]; rfl
  have hkl : k < l.length := (List.getElem?_eq_some_iff.1 hx).1
  obtain ⟨⟨x0, x1, x2, x3⟩, x4, x5, x6, x7, x8⟩ := vsp x
  have w1 : IntKind.i64.wrap (((k : Nat) : Int) + 1) = ((k + 1 : Nat) : Int) := by rw [wrap64_id (by omega) (by omega)]; omega
  simp only [wfE, List.all_cons, List.all_nil, Bool.and_eq_true, decide_eq_true_eq, and_true] at hw
  simp only [hgi, x0, x1, x2, x3, x4, x5, x6, x7, x8, vsx, vsxS, eqf, w1, Int.toNat_natCast, Nat.zero_add, Nat.sub_zero, List.length_map, ht, appS] at st
  rw [decide_eq_true (show ((k : Nat) : Int) < (1 : Int) by omega), decide_eq_true (show (0 : Int) ≤ ((k : Nat) : Int) by omega), decide_eq_true hkl, decide_eq_true (show q.length ≤ q.length from Nat.le_refl _)] at st
  rw [decide_eq_true (show 0 ≤ e0.m from hw.1), decide_eq_true (show e0.m ≤ 2 from hw.2), decide_eq_true (show e0.m.toNat ≤ 2 by have := hw.2; omega), decide_eq_true (show (q ++ [e0.s]).length * 88 ≤ 140737488355328 by rw [List.length_append, List.length_singleton]; omega)] at st
  refine st.trans ?_
  clear st
  revert hi
  simp only [inE, qC, lastE]
  cases x.eqB p0
  · exact fun h => Bool.noConfusion (show false = true from h)
  · cases cntE e0 e0.m.toNat now win == 2
    · exact fun _ => by kernel_rfl
    · exact fun _ => by kernel_rfl
theorem qa_1 (own : Ck) (win now : Int) (l : List Prt) (p0 : Prt) (e0 : Ent) (hl : l.length = 1) (hi : ∀ x ∈ l, inE x [(p0, e0)] = true) (hw : wfE [(p0, e0)] = true) :
    ∀ (rest : List Prt) (k : Nat) (q : List Ste), l.drop k = rest → k ≤ 1 → q.length ≤ k →
    ∃ f, (qLN f (qV now q.length 1 k) (qBl (q.map Ste.vs) (l.map Prt.vs) own win [(p0, e0)])).den = some (resQ 1 q.length (q ++ quF now win [(p0, e0)] rest) (!(quF now win [(p0, e0)] rest).isEmpty)) := by
  intro rest
  induction rest with
  | nil =>
    intro k q hd hk hq
    have hk5 : k = 1 := by
      have := congrArg List.length hd
      rw [List.length_drop, hl, List.length_nil] at this
      omega
    subst hk5
    refine ⟨1, ?_⟩
    have hx := qr_1 own win now ((1 : Nat) : Int) (l.map Prt.vs) (q.map Ste.vs) q.length p0 e0
    rw [decide_eq_false (show ¬ ((1 : Nat) : Int) < (1 : Int) by decide)] at hx
    exact loopN_end hx (by show Ex.exit 0 ≠ Ex.nrm; decide)
  | cons x rest ih =>
    intro k q hd hk hq
    obtain ⟨hx, hd', hkl⟩ := drop_cons hd
    have st := qs_1 own win now k l q x p0 e0 hx (by omega) (by omega) (hi x (List.mem_of_getElem? hx)) hw
    cases hc : qC now win x [(p0, e0)] with
    | false =>
      rw [hc] at st
      obtain ⟨f, hf⟩ := ih (k + 1) q hd' (by omega) (by omega)
      refine ⟨f + 1, ?_⟩
      have hF : quF now win [(p0, e0)] (x :: rest) = quF now win [(p0, e0)] rest := by
        unfold quF
        rw [List.filter_cons_of_neg (by rw [hc]; simp)]
      rw [hF]
      refine loopN_step st rfl (vals' := qV now q.length 1 (k + 1 : Nat)) (bs' := qBl (q.map Ste.vs) (l.map Prt.vs) own win [(p0, e0)]) (by kernel_rfl) (by kernel_rfl) (by kernel_rfl) hf ?_
      generalize quF now win [(p0, e0)] rest = F
      cases F with
      | nil => (show (seqAfter _ _ _).den = some _; kernel_rfl)
      | cons a b => (show (seqAfter _ _ _).den = some _; kernel_rfl)
    | true =>
      rw [hc] at st
      obtain ⟨f, hf⟩ := ih (k + 1) (q ++ [(lastE x [(p0, e0)]).1]) hd' (by omega) (by rw [List.length_append, List.length_singleton]; omega)
      refine ⟨f + 1, ?_⟩
      have hF : quF now win [(p0, e0)] (x :: rest) = (lastE x [(p0, e0)]).1 :: quF now win [(p0, e0)] rest := by
        unfold quF
        rw [List.filter_cons_of_pos (by rw [hc]), List.map_cons]
      rw [hF]
      generalize (lastE x [(p0, e0)]).1 = y at st hf ⊢
      refine loopN_step st rfl (vals' := qV now (q ++ [y]).length 1 (k + 1 : Nat)) (bs' := qBl ((q ++ [y]).map Ste.vs) (l.map Prt.vs) own win [(p0, e0)]) (by kernel_rfl) (by kernel_rfl) (by kernel_rfl) hf ?_
      generalize quF now win [(p0, e0)] rest = F
      rw [show q ++ [y] ++ F = q ++ y :: F by simp]
      cases F with
      | nil => (show (seqAfter _ _ _).den = some _; kernel_rfl)
      | cons a b => (show (seqAfter _ _ _).den = some _; kernel_rfl)
theorem qr_2 (own : Ck) (win now i : Int) (rs qs : List (List V)) (m : Nat) (p0 p1 : Prt) (e0 e1 : Ent) : (qRd (qV now m 2 i) (qBl qs rs own win [(p0, e0), (p1, e1)])).den = Tree.den (Tree.ite (decide (i < 2)) (Tree.ite (decide (0 ≤ i) && decide (i < 2)) (Tree.ite (decide (0 + i.toNat < rs.length)) (Tree.ite ((V.toInt ((rs.getD (0 + i.toNat) []).getD 0 V.any)) == p0.c.1 && ((V.toInt ((rs.getD (0 + i.toNat) []).getD 1 V.any)) == p0.c.2 && ((V.toInt ((rs.getD (0 + i.toNat) []).getD 2 V.any)) == p0.c.3 && ((V.toInt ((rs.getD (0 + i.toNat) []).getD 3 V.any)) == p0.c.4 && ((V.toInt ((rs.getD (0 + i.toNat) []).getD 4 V.any)) == p0.c.5 && ((V.toInt ((rs.getD (0 + i.toNat) []).getD 5 V.any)) == p0.c.6 && ((V.toInt ((rs.getD (0 + i.toNat) []).getD 6 V.any)) == p0.c.7 && ((V.toInt ((rs.getD (0 + i.toNat) []).getD 7 V.any)) == p0.c.8 && true))))))) && ((V.toInt ((rs.getD (0 + i.toNat) []).getD 8 V.any)) == p0.2 && true)) (Tree.ite (true && decide (0 ≤ e0.m) && decide (e0.m ≤ 2)) (Tree.ite (decide (e0.m.toNat - 0 ≤ 2) && decide ((↑(e0.m.toNat - 0) : Int) = (↑(e0.m.toNat - 0) : Int))) (Tree.ite (cntE e0 (e0.m.toNat - 0) now win == 2) (Tree.ite (decide (0 + m ≤ qs.length) && true) (Tree.ite (decide ((List.take m (List.drop 0 qs) ++ [[V.int IntKind.i64 e0.s.1, V.int IntKind.i64 e0.s.2, V.int IntKind.i64 e0.s.q.1, V.int IntKind.i64 e0.s.q.2, V.int IntKind.i64 e0.s.q.3, V.int IntKind.u8 e0.s.g.1, V.int IntKind.u8 e0.s.g.2, V.int IntKind.u8 e0.s.g.3, V.int IntKind.u8 e0.s.g.4, V.int IntKind.u8 e0.s.g.5, V.int IntKind.u8 e0.s.g.6, V.int IntKind.u8 e0.s.g.7, V.int IntKind.u8 e0.s.g.8, V.int IntKind.i64 e0.s.5, V.int IntKind.u8 e0.s.snd.c.1, V.int IntKind.u8 e0.s.snd.c.2, V.int IntKind.u8 e0.s.snd.c.3, V.int IntKind.u8 e0.s.snd.c.4, V.int IntKind.u8 e0.s.snd.c.5, V.int IntKind.u8 e0.s.snd.c.6, V.int IntKind.u8 e0.s.snd.c.7, V.int IntKind.u8 e0.s.snd.c.8, V.int IntKind.i64 e0.s.snd.2, V.int IntKind.u8 e0.s.rcv.c.1, V.int IntKind.u8 e0.s.rcv.c.2, V.int IntKind.u8 e0.s.rcv.c.3, V.int IntKind.u8 e0.s.rcv.c.4, V.int IntKind.u8 e0.s.rcv.c.5, V.int IntKind.u8 e0.s.rcv.c.6, V.int IntKind.u8 e0.s.rcv.c.7, V.int IntKind.u8 e0.s.rcv.c.8, V.int IntKind.i64 e0.s.rcv.2]]).length * 88 ≤ 140737488355328)) (Tree.leaf { e := Ex.nrm, vs := [V.ptr 0 0 0 0, V.int IntKind.i64 now, V.sl 6 0 0 32 (List.take m (List.drop 0 qs) ++ [[V.int IntKind.i64 e0.s.1, V.int IntKind.i64 e0.s.2, V.int IntKind.i64 e0.s.q.1, V.int IntKind.i64 e0.s.q.2, V.int IntKind.i64 e0.s.q.3, V.int IntKind.u8 e0.s.g.1, V.int IntKind.u8 e0.s.g.2, V.int IntKind.u8 e0.s.g.3, V.int IntKind.u8 e0.s.g.4, V.int IntKind.u8 e0.s.g.5, V.int IntKind.u8 e0.s.g.6, V.int IntKind.u8 e0.s.g.7, V.int IntKind.u8 e0.s.g.8, V.int IntKind.i64 e0.s.5, V.int IntKind.u8 e0.s.snd.c.1, V.int IntKind.u8 e0.s.snd.c.2, V.int IntKind.u8 e0.s.snd.c.3, V.int IntKind.u8 e0.s.snd.c.4, V.int IntKind.u8 e0.s.snd.c.5, V.int IntKind.u8 e0.s.snd.c.6, V.int IntKind.u8 e0.s.snd.c.7, V.int IntKind.u8 e0.s.snd.c.8, V.int IntKind.i64 e0.s.snd.2, V.int IntKind.u8 e0.s.rcv.c.1, V.int IntKind.u8 e0.s.rcv.c.2, V.int IntKind.u8 e0.s.rcv.c.3, V.int IntKind.u8 e0.s.rcv.c.4, V.int IntKind.u8 e0.s.rcv.c.5, V.int IntKind.u8 e0.s.rcv.c.6, V.int IntKind.u8 e0.s.rcv.c.7, V.int IntKind.u8 e0.s.rcv.c.8, V.int IntKind.i64 e0.s.rcv.2]]).length none, V.sl 2 0 0 9 2 none, V.int IntKind.i64 2, V.int IntKind.i64 (IntKind.i64.wrap (i + 1))], upd := [none, some none, none, none, none, none], new := [Body.rows [K.int IntKind.i64, K.int IntKind.i64, K.int IntKind.i64, K.int IntKind.i64, K.int IntKind.i64, K.int IntKind.u8, K.int IntKind.u8, K.int IntKind.u8, K.int IntKind.u8, K.int IntKind.u8, K.int IntKind.u8, K.int IntKind.u8, K.int IntKind.u8, K.int IntKind.i64, K.int IntKind.u8, K.int IntKind.u8, K.int IntKind.u8, K.int IntKind.u8, K.int IntKind.u8, K.int IntKind.u8, K.int IntKind.u8, K.int IntKind.u8, K.int IntKind.i64, K.int IntKind.u8, K.int IntKind.u8, K.int IntKind.u8, K.int IntKind.u8, K.int IntKind.u8, K.int IntKind.u8, K.int IntKind.u8, K.int IntKind.u8, K.int IntKind.i64] (List.take m (List.drop 0 qs) ++ [[V.int IntKind.i64 e0.s.1, V.int IntKind.i64 e0.s.2, V.int IntKind.i64 e0.s.q.1, V.int IntKind.i64 e0.s.q.2, V.int IntKind.i64 e0.s.q.3, V.int IntKind.u8 e0.s.g.1, V.int IntKind.u8 e0.s.g.2, V.int IntKind.u8 e0.s.g.3, V.int IntKind.u8 e0.s.g.4, V.int IntKind.u8 e0.s.g.5, V.int IntKind.u8 e0.s.g.6, V.int IntKind.u8 e0.s.g.7, V.int IntKind.u8 e0.s.g.8, V.int IntKind.i64 e0.s.5, V.int IntKind.u8 e0.s.snd.c.1, V.int IntKind.u8 e0.s.snd.c.2, V.int IntKind.u8 e0.s.snd.c.3, V.int IntKind.u8 e0.s.snd.c.4, V.int IntKind.u8 e0.s.snd.c.5, V.int IntKind.u8 e0.s.snd.c.6, V.int IntKind.u8 e0.s.snd.c.7, V.int IntKind.u8 e0.s.snd.c.8, V.int IntKind.i64 e0.s.snd.2, V.int IntKind.u8 e0.s.rcv.c.1, V.int IntKind.u8 e0.s.rcv.c.2, V.int IntKind.u8 e0.s.rcv.c.3, V.int IntKind.u8 e0.s.rcv.c.4, V.int IntKind.u8 e0.s.rcv.c.5, V.int IntKind.u8 e0.s.rcv.c.6, V.int IntKind.u8 e0.s.rcv.c.7, V.int IntKind.u8 e0.s.rcv.c.8, V.int IntKind.i64 e0.s.rcv.2]])] }) Tree.fail) Tree.fail) (Tree.leaf { e := Ex.nrm, vs := [V.ptr 0 0 0 0, V.int IntKind.i64 now, V.sl 1 0 0 32 m none, V.sl 2 0 0 9 2 none, V.int IntKind.i64 2, V.int IntKind.i64 (IntKind.i64.wrap (i + 1))], upd := [none, none, none, none, none, none], new := [] })) Tree.fail) Tree.fail) (Tree.ite ((V.toInt ((rs.getD (0 + i.toNat) []).getD 0 V.any)) == p1.c.1 && ((V.toInt ((rs.getD (0 + i.toNat) []).getD 1 V.any)) == p1.c.2 && ((V.toInt ((rs.getD (0 + i.toNat) []).getD 2 V.any)) == p1.c.3 && ((V.toInt ((rs.getD (0 + i.toNat) []).getD 3 V.any)) == p1.c.4 && ((V.toInt ((rs.getD (0 + i.toNat) []).getD 4 V.any)) == p1.c.5 && ((V.toInt ((rs.getD (0 + i.toNat) []).getD 5 V.any)) == p1.c.6 && ((V.toInt ((rs.getD (0 + i.toNat) []).getD 6 V.any)) == p1.c.7 && ((V.toInt ((rs.getD (0 + i.toNat) []).getD 7 V.any)) == p1.c.8 && true))))))) && ((V.toInt ((rs.getD (0 + i.toNat) []).getD 8 V.any)) == p1.2 && true)) (Tree.ite (true && decide (0 ≤ e1.m) && decide (e1.m ≤ 2)) (Tree.ite (decide (e1.m.toNat - 0 ≤ 2) && decide ((↑(e1.m.toNat - 0) : Int) = (↑(e1.m.toNat - 0) : Int))) (Tree.ite (cntE e1 (e1.m.toNat - 0) now win == 2) (Tree.ite (decide (0 + m ≤ qs.length) && true) (Tree.ite (decide ((List.take m (List.drop 0 qs) ++ [[V.int IntKind.i64 e1.s.1, V.int IntKind.i64 e1.s.2, V.int IntKind.i64 e1.s.q.1, V.int IntKind.i64 e1.s.q.2, V.int IntKind.i64 e1.s.q.3, V.int IntKind.u8 e1.s.g.1, V.int IntKind.u8 e1.s.g.2, V.int IntKind.u8 e1.s.g.3, V.int IntKind.u8 e1.s.g.4, V.int IntKind.u8 e1.s.g.5, V.int IntKind.u8 e1.s.g.6, V.int IntKind.u8 e1.s.g.7, V.int IntKind.u8 e1.s.g.8, V.int IntKind.i64 e1.s.5, V.int IntKind.u8 e1.s.snd.c.1, V.int IntKind.u8 e1.s.snd.c.2, V.int IntKind.u8 e1.s.snd.c.3, V.int IntKind.u8 e1.s.snd.c.4, V.int IntKind.u8 e1.s.snd.c.5, V.int IntKind.u8 e1.s.snd.c.6, V.int IntKind.u8 e1.s.snd.c.7, V.int IntKind.u8 e1.s.snd.c.8, V.int IntKind.i64 e1.s.snd.2, V.int IntKind.u8 e1.s.rcv.c.1, V.int IntKind.u8 e1.s.rcv.c.2, V.int IntKind.u8 e1.s.rcv.c.3, V.int IntKind.u8 e1.s.rcv.c.4, V.int IntKind.u8 e1.s.rcv.c.5, V.int IntKind.u8 e1.s.rcv.c.6, V.int IntKind.u8 e1.s.rcv.c.7, V.int IntKind.u8 e1.s.rcv.c.8, V.int IntKind.i64 e1.s.rcv.2]]).length * 88 ≤ 140737488355328)) (Tree.leaf { e := Ex.nrm, vs := [V.ptr 0 0 0 0, V.int IntKind.i64 now, V.sl 6 0 0 32 (List.take m (List.drop 0 qs) ++ [[V.int IntKind.i64 e1.s.1, V.int IntKind.i64 e1.s.2, V.int IntKind.i64 e1.s.q.1, V.int IntKind.i64 e1.s.q.2, V.int IntKind.i64 e1.s.q.3, V.int IntKind.u8 e1.s.g.1, V.int IntKind.u8 e1.s.g.2, V.int IntKind.u8 e1.s.g.3, V.int IntKind.u8 e1.s.g.4, V.int IntKind.u8 e1.s.g.5, V.int IntKind.u8 e1.s.g.6, V.int IntKind.u8 e1.s.g.7, V.int IntKind.u8 e1.s.g.8, V.int IntKind.i64 e1.s.5, V.int IntKind.u8 e1.s.snd.c.1, V.int IntKind.u8 e1.s.snd.c.2, V.int IntKind.u8 e1.s.snd.c.3, V.int IntKind.u8 e1.s.snd.c.4, V.int IntKind.u8 e1.s.snd.c.5, V.int IntKind.u8 e1.s.snd.c.6, V.int IntKind.u8 e1.s.snd.c.7, V.int IntKind.u8 e1.s.snd.c.8, V.int IntKind.i64 e1.s.snd.2, V.int IntKind.u8 e1.s.rcv.c.1, V.int IntKind.u8 e1.s.rcv.c.2, V.int IntKind.u8 e1.s.rcv.c.3, V.int IntKind.u8 e1.s.rcv.c.4, V.int IntKind.u8 e1.s.rcv.c.5, V.int IntKind.u8 e1.s.rcv.c.6, V.int IntKind.u8 e1.s.rcv.c.7, V.int IntKind.u8 e1.s.rcv.c.8, V.int IntKind.i64 e1.s.rcv.2]]).length none, V.sl 2 0 0 9 2 none, V.int IntKind.i64 2, V.int IntKind.i64 (IntKind.i64.wrap (i + 1))], upd := [none, some none, none, none, none, none], new := [Body.rows [K.int IntKind.i64, K.int IntKind.i64, K.int IntKind.i64, K.int IntKind.i64, K.int IntKind.i64, K.int IntKind.u8, K.int IntKind.u8, K.int IntKind.u8, K.int IntKind.u8, K.int IntKind.u8, K.int IntKind.u8, K.int IntKind.u8, K.int IntKind.u8, K.int IntKind.i64, K.int IntKind.u8, K.int IntKind.u8, K.int IntKind.u8, K.int IntKind.u8, K.int IntKind.u8, K.int IntKind.u8, K.int IntKind.u8, K.int IntKind.u8, K.int IntKind.i64, K.int IntKind.u8, K.int IntKind.u8, K.int IntKind.u8, K.int IntKind.u8, K.int IntKind.u8, K.int IntKind.u8, K.int IntKind.u8, K.int IntKind.u8, K.int IntKind.i64] (List.take m (List.drop 0 qs) ++ [[V.int IntKind.i64 e1.s.1, V.int IntKind.i64 e1.s.2, V.int IntKind.i64 e1.s.q.1, V.int IntKind.i64 e1.s.q.2, V.int IntKind.i64 e1.s.q.3, V.int IntKind.u8 e1.s.g.1, V.int IntKind.u8 e1.s.g.2, V.int IntKind.u8 e1.s.g.3, V.int IntKind.u8 e1.s.g.4, V.int IntKind.u8 e1.s.g.5, V.int IntKind.u8 e1.s.g.6, V.int IntKind.u8 e1.s.g.7, V.int IntKind.u8 e1.s.g.8, V.int IntKind.i64 e1.s.5, V.int IntKind.u8 e1.s.snd.c.1, V.int IntKind.u8 e1.s.snd.c.2, V.int IntKind.u8 e1.s.snd.c.3, V.int IntKind.u8 e1.s.snd.c.4, V.int IntKind.u8 e1.s.snd.c.5, V.int IntKind.u8 e1.s.snd.c.6, V.int IntKind.u8 e1.s.snd.c.7, V.int IntKind.u8 e1.s.snd.c.8, V.int IntKind.i64 e1.s.snd.2, V.int IntKind.u8 e1.s.rcv.c.1, V.int IntKind.u8 e1.s.rcv.c.2, V.int IntKind.u8 e1.s.rcv.c.3, V.int IntKind.u8 e1.s.rcv.c.4, V.int IntKind.u8 e1.s.rcv.c.5, V.int IntKind.u8 e1.s.rcv.c.6, V.int IntKind.u8 e1.s.rcv.c.7, V.int IntKind.u8 e1.s.rcv.c.8, V.int IntKind.i64 e1.s.rcv.2]])] }) Tree.fail) Tree.fail) (Tree.leaf { e := Ex.nrm, vs := [V.ptr 0 0 0 0, V.int IntKind.i64 now, V.sl 1 0 0 32 m none, V.sl 2 0 0 9 2 none, V.int IntKind.i64 2, V.int IntKind.i64 (IntKind.i64.wrap (i + 1))], upd := [none, none, none, none, none, none], new := [] })) Tree.fail) Tree.fail) Tree.fail)) Tree.fail) Tree.fail) (Tree.leaf { e := Ex.exit 0, vs := [V.sl 1 0 0 32 m none], upd := [none, none, none, none, none, none], new := [] })) := by
  kernel_rfl
theorem qs_2 (own : Ck) (win now : Int) (k : Nat) (l : List Prt) (q : List Ste) (x : Prt) (p0 p1 : Prt) (e0 e1 : Ent) (hx : l[k]? = some x) (hk : k < 2) (hq : q.length < 1000) (hi : inE x [(p0, e0), (p1, e1)] = true) (hw : wfE [(p0, e0), (p1, e1)] = true) :
    (qRd (qV now q.length 2 k) (qBl (q.map Ste.vs) (l.map Prt.vs) own win [(p0, e0), (p1, e1)])).den = some (match qC now win x [(p0, e0), (p1, e1)] with
      | true => ⟨.nrm, qV now q.length 2 (k + 1 : Nat) |>.set 2 (.sl 6 0 0 32 (q ++ [(lastE x [(p0, e0), (p1, e1)]).1]).length none), none :: some none :: List.replicate 4 none, [.rows stK ((q ++ [(lastE x [(p0, e0), (p1, e1)]).1]).map Ste.vs)]⟩
      | false => ⟨.nrm, qV now q.length 2 (k + 1 : Nat), List.replicate 6 none, []⟩) := by
  have st := qr_2 own win now k (l.map Prt.vs) (q.map Ste.vs) q.length p0 p1 e0 e1
  have ht : List.take q.length (List.drop 0 (q.map Ste.vs)) = q.map Ste.vs := by rw [List.drop_zero]; exact List.take_of_length_le (by simp)
  have hgi : (l.map Prt.vs).getD k [] = x.vs := by
    rw [List.getD_eq_getElem?_getD, List.getElem?_map, hx]; rfl
  have hkl : k < l.length := (List.getElem?_eq_some_iff.1 hx).1
  obtain ⟨⟨x0, x1, x2, x3⟩, x4, x5, x6, x7, x8⟩ := vsp x
  have w1 : IntKind.i64.wrap (((k : Nat) : Int) + 1) = ((k + 1 : Nat) : Int) := by rw [wrap64_id (by omega) (by omega)]; omega
  simp only [wfE, List.all_cons, List.all_nil, Bool.and_eq_true, decide_eq_true_eq, and_true] at hw
  simp only [hgi, x0, x1, x2, x3, x4, x5, x6, x7, x8, vsx, vsxS, eqf, w1, Int.toNat_natCast, Nat.zero_add, Nat.sub_zero, List.length_map, ht, appS] at st
  rw [decide_eq_true (show ((k : Nat) : Int) < (2 : Int) by omega), decide_eq_true (show (0 : Int) ≤ ((k : Nat) : Int) by omega), decide_eq_true hkl, decide_eq_true (show q.length ≤ q.length from Nat.le_refl _)] at st
  rw [decide_eq_true (show 0 ≤ e0.m from hw.1.1), decide_eq_true (show e0.m ≤ 2 from hw.1.2), decide_eq_true (show e0.m.toNat ≤ 2 by have := hw.1.2; omega), decide_eq_true (show (q ++ [e0.s]).length * 88 ≤ 140737488355328 by rw [List.length_append, List.length_singleton]; omega)] at st
  rw [decide_eq_true (show 0 ≤ e1.m from hw.2.1), decide_eq_true (show e1.m ≤ 2 from hw.2.2), decide_eq_true (show e1.m.toNat ≤ 2 by have := hw.2.2; omega), decide_eq_true (show (q ++ [e1.s]).length * 88 ≤ 140737488355328 by rw [List.length_append, List.length_singleton]; omega)] at st
  refine st.trans ?_
  clear st
  revert hi
  simp only [inE, qC, lastE]
  cases x.eqB p0
  · cases x.eqB p1
    · exact fun h => Bool.noConfusion (show false = true from h)
    · cases cntE e1 e1.m.toNat now win == 2
      · exact fun _ => by kernel_rfl
      · exact fun _ => by kernel_rfl
  · cases cntE e0 e0.m.toNat now win == 2
    · exact fun _ => by kernel_rfl
    · exact fun _ => by kernel_rfl
theorem qa_2 (own : Ck) (win now : Int) (l : List Prt) (p0 p1 : Prt) (e0 e1 : Ent) (hl : l.length = 2) (hi : ∀ x ∈ l, inE x [(p0, e0), (p1, e1)] = true) (hw : wfE [(p0, e0), (p1, e1)] = true) :
    ∀ (rest : List Prt) (k : Nat) (q : List Ste), l.drop k = rest → k ≤ 2 → q.length ≤ k →
    ∃ f, (qLN f (qV now q.length 2 k) (qBl (q.map Ste.vs) (l.map Prt.vs) own win [(p0, e0), (p1, e1)])).den = some (resQ 2 q.length (q ++ quF now win [(p0, e0), (p1, e1)] rest) (!(quF now win [(p0, e0), (p1, e1)] rest).isEmpty)) := by
  intro rest
  induction rest with
  | nil =>
    intro k q hd hk hq
    have hk5 : k = 2 := by
      have := congrArg List.length hd
      rw [List.length_drop, hl, List.length_nil] at this
      omega
    subst hk5
    refine ⟨1, ?_⟩
    have hx := qr_2 own win now ((2 : Nat) : Int) (l.map Prt.vs) (q.map Ste.vs) q.length p0 p1 e0 e1
    rw [decide_eq_false (show ¬ ((2 : Nat) : Int) < (2 : Int) by decide)] at hx
    exact loopN_end hx (by show Ex.exit 0 ≠ Ex.nrm; decide)
  | cons x rest ih =>
    intro k q hd hk hq
    obtain ⟨hx, hd', hkl⟩ := drop_cons hd
    have st := qs_2 own win now k l q x p0 p1 e0 e1 hx (by omega) (by omega) (hi x (List.mem_of_getElem? hx)) hw
    cases hc : qC now win x [(p0, e0), (p1, e1)] with
    | false =>
      rw [hc] at st
      obtain ⟨f, hf⟩ := ih (k + 1) q hd' (by omega) (by omega)
      refine ⟨f + 1, ?_⟩
      have hF : quF now win [(p0, e0), (p1, e1)] (x :: rest) = quF now win [(p0, e0), (p1, e1)] rest := by
        unfold quF
        rw [List.filter_cons_of_neg (by rw [hc]; simp)]
      rw [hF]
      refine loopN_step st rfl (vals' := qV now q.length 2 (k + 1 : Nat)) (bs' := qBl (q.map Ste.vs) (l.map Prt.vs) own win [(p0, e0), (p1, e1)]) (by kernel_rfl) (by kernel_rfl) (by kernel_rfl) hf ?_
      generalize quF now win [(p0, e0), (p1, e1)] rest = F
      cases F with
      | nil => (show (seqAfter _ _ _).den = some _; kernel_rfl)
      | cons a b => (show (seqAfter _ _ _).den = some _; kernel_rfl)
    | true =>
      rw [hc] at st
      obtain ⟨f, hf⟩ := ih (k + 1) (q ++ [(lastE x [(p0, e0), (p1, e1)]).1]) hd' (by omega) (by rw [List.length_append, List.length_singleton]; omega)
      refine ⟨f + 1, ?_⟩
      have hF : quF now win [(p0, e0), (p1, e1)] (x :: rest) = (lastE x [(p0, e0), (p1, e1)]).1 :: quF now win [(p0, e0), (p1, e1)] rest := by
        unfold quF
        rw [List.filter_cons_of_pos (by rw [hc]), List.map_cons]
      rw [hF]
      generalize (lastE x [(p0, e0), (p1, e1)]).1 = y at st hf ⊢
      refine loopN_step st rfl (vals' := qV now (q ++ [y]).length 2 (k + 1 : Nat)) (bs' := qBl ((q ++ [y]).map Ste.vs) (l.map Prt.vs) own win [(p0, e0), (p1, e1)]) (by kernel_rfl) (by kernel_rfl) (by kernel_rfl) hf ?_
      generalize quF now win [(p0, e0), (p1, e1)] rest = F
      rw [show q ++ [y] ++ F = q ++ y :: F by simp]
      cases F with
      | nil => (show (seqAfter _ _ _).den = some _; kernel_rfl)
      | cons a b => (show (seqAfter _ _ _).den = some _; kernel_rfl)
theorem qr_3 (own : Ck) (win now i : Int) (rs qs : List (List V)) (m : Nat) (p0 p1 p2 : Prt) (e0 e1 e2 : Ent) : (qRd (qV now m 3 i) (qBl qs rs own win [(p0, e0), (p1, e1), (p2, e2)])).den = Tree.den (Tree.ite (decide (i < 3)) (Tree.ite (decide (0 ≤ i) && decide (i < 3)) (Tree.ite (decide (0 + i.toNat < rs.length)) (Tree.ite ((V.toInt ((rs.getD (0 + i.toNat) []).getD 0 V.any)) == p0.c.1 && ((V.toInt ((rs.getD (0 + i.toNat) []).getD 1 V.any)) == p0.c.2 && ((V.toInt ((rs.getD (0 + i.toNat) []).getD 2 V.any)) == p0.c.3 && ((V.toInt ((rs.getD (0 + i.toNat) []).getD 3 V.any)) == p0.c.4 && ((V.toInt ((rs.getD (0 + i.toNat) []).getD 4 V.any)) == p0.c.5 && ((V.toInt ((rs.getD (0 + i.toNat) []).getD 5 V.any)) == p0.c.6 && ((V.toInt ((rs.getD (0 + i.toNat) []).getD 6 V.any)) == p0.c.7 && ((V.toInt ((rs.getD (0 + i.toNat) []).getD 7 V.any)) == p0.c.8 && true))))))) && ((V.toInt ((rs.getD (0 + i.toNat) []).getD 8 V.any)) == p0.2 && true)) (Tree.ite (true && decide (0 ≤ e0.m) && decide (e0.m ≤ 2)) (Tree.ite (decide (e0.m.toNat - 0 ≤ 2) && decide ((↑(e0.m.toNat - 0) : Int) = (↑(e0.m.toNat - 0) : Int))) (Tree.ite (cntE e0 (e0.m.toNat - 0) now win == 2) (Tree.ite (decide (0 + m ≤ qs.length) && true) (Tree.ite (decide ((List.take m (List.drop 0 qs) ++ [[V.int IntKind.i64 e0.s.1, V.int IntKind.i64 e0.s.2, V.int IntKind.i64 e0.s.q.1, V.int IntKind.i64 e0.s.q.2, V.int IntKind.i64 e0.s.q.3, V.int IntKind.u8 e0.s.g.1, V.int IntKind.u8 e0.s.g.2, V.int IntKind.u8 e0.s.g.3, V.int IntKind.u8 e0.s.g.4, V.int IntKind.u8 e0.s.g.5, V.int IntKind.u8 e0.s.g.6, V.int IntKind.u8 e0.s.g.7, V.int IntKind.u8 e0.s.g.8, V.int IntKind.i64 e0.s.5, V.int IntKind.u8 e0.s.snd.c.1, V.int IntKind.u8 e0.s.snd.c.2, V.int IntKind.u8 e0.s.snd.c.3, V.int IntKind.u8 e0.s.snd.c.4, V.int IntKind.u8 e0.s.snd.c.5, V.int IntKind.u8 e0.s.snd.c.6, V.int IntKind.u8 e0.s.snd.c.7, V.int IntKind.u8 e0.s.snd.c.8, V.int IntKind.i64 e0.s.snd.2, V.int IntKind.u8 e0.s.rcv.c.1, V.int IntKind.u8 e0.s.rcv.c.2, V.int IntKind.u8 e0.s.rcv.c.3, V.int IntKind.u8 e0.s.rcv.c.4, V.int IntKind.u8 e0.s.rcv.c.5, V.int IntKind.u8 e0.s.rcv.c.6, V.int IntKind.u8 e0.s.rcv.c.7, V.int IntKind.u8 e0.s.rcv.c.8, V.int IntKind.i64 e0.s.rcv.2]]).length * 88 ≤ 140737488355328)) (Tree.leaf { e := Ex.nrm, vs := [V.ptr 0 0 0 0, V.int IntKind.i64 now, V.sl 7 0 0 32 (List.take m (List.drop 0 qs) ++ [[V.int IntKind.i64 e0.s.1, V.int IntKind.i64 e0.s.2, V.int IntKind.i64 e0.s.q.1, V.int IntKind.i64 e0.s.q.2, V.int IntKind.i64 e0.s.q.3, V.int IntKind.u8 e0.s.g.1, V.int IntKind.u8 e0.s.g.2, V.int IntKind.u8 e0.s.g.3, V.int IntKind.u8 e0.s.g.4, V.int IntKind.u8 e0.s.g.5, V.int IntKind.u8 e0.s.g.6, V.int IntKind.u8 e0.s.g.7, V.int IntKind.u8 e0.s.g.8, V.int IntKind.i64 e0.s.5, V.int IntKind.u8 e0.s.snd.c.1, V.int IntKind.u8 e0.s.snd.c.2, V.int IntKind.u8 e0.s.snd.c.3, V.int IntKind.u8 e0.s.snd.c.4, V.int IntKind.u8 e0.s.snd.c.5, V.int IntKind.u8 e0.s.snd.c.6, V.int IntKind.u8 e0.s.snd.c.7, V.int IntKind.u8 e0.s.snd.c.8, V.int IntKind.i64 e0.s.snd.2, V.int IntKind.u8 e0.s.rcv.c.1, V.int IntKind.u8 e0.s.rcv.c.2, V.int IntKind.u8 e0.s.rcv.c.3, V.int IntKind.u8 e0.s.rcv.c.4, V.int IntKind.u8 e0.s.rcv.c.5, V.int IntKind.u8 e0.s.rcv.c.6, V.int IntKind.u8 e0.s.rcv.c.7, V.int IntKind.u8 e0.s.rcv.c.8, V.int IntKind.i64 e0.s.rcv.2]]).length none, V.sl 2 0 0 9 3 none, V.int IntKind.i64 3, V.int IntKind.i64 (IntKind.i64.wrap (i + 1))], upd := [none, some none, none, none, none, none, none], new := [Body.rows [K.int IntKind.i64, K.int IntKind.i64, K.int IntKind.i64, K.int IntKind.i64, K.int IntKind.i64, K.int IntKind.u8, K.int IntKind.u8, K.int IntKind.u8, K.int IntKind.u8, K.int IntKind.u8, K.int IntKind.u8, K.int IntKind.u8, K.int IntKind.u8, K.int IntKind.i64, K.int IntKind.u8, K.int IntKind.u8, K.int IntKind.u8, K.int IntKind.u8, K.int IntKind.u8, K.int IntKind.u8, K.int IntKind.u8, K.int IntKind.u8, K.int IntKind.i64, K.int IntKind.u8, K.int IntKind.u8, K.int IntKind.u8, K.int IntKind.u8, K.int IntKind.u8, K.int IntKind.u8, K.int IntKind.u8, K.int IntKind.u8, K.int IntKind.i64] (List.take m (List.drop 0 qs) ++ [[V.int IntKind.i64 e0.s.1, V.int IntKind.i64 e0.s.2, V.int IntKind.i64 e0.s.q.1, V.int IntKind.i64 e0.s.q.2, V.int IntKind.i64 e0.s.q.3, V.int IntKind.u8 e0.s.g.1, V.int IntKind.u8 e0.s.g.2, V.int IntKind.u8 e0.s.g.3, V.int IntKind.u8 e0.s.g.4, V.int IntKind.u8 e0.s.g.5, V.int IntKind.u8 e0.s.g.6, V.int IntKind.u8 e0.s.g.7, V.int IntKind.u8 e0.s.g.8, V.int IntKind.i64 e0.s.5, V.int IntKind.u8 e0.s.snd.c.1, V.int IntKind.u8 e0.s.snd.c.2, V.int IntKind.u8 e0.s.snd.c.3, V.int IntKind.u8 e0.s.snd.c.4, V.int IntKind.u8 e0.s.snd.c.5, V.int IntKind.u8 e0.s.snd.c.6, V.int IntKind.u8 e0.s.snd.c.7, V.int IntKind.u8 e0.s.snd.c.8, V.int IntKind.i64 e0.s.snd.2, V.int IntKind.u8 e0.s.rcv.c.1, V.int IntKind.u8 e0.s.rcv.c.2, V.int IntKind.u8 e0.s.rcv.c.3, V.int IntKind.u8 e0.s.rcv.c.4, V.int IntKind.u8 e0.s.rcv.c.5, V.int IntKind.u8 e0.s.rcv.c.6, V.int IntKind.u8 e0.s.rcv.c.7, V.int IntKind.u8 e0.s.rcv.c.8, V.int IntKind.i64 e0.s.rcv.2]])] }) Tree.fail) Tree.fail) (Tree.leaf { e := Ex.nrm, vs := [V.ptr 0 0 0 0, V.int IntKind.i64 now, V.sl 1 0 0 32 m none, V.sl 2 0 0 9 3 none, V.int IntKind.i64 3, V.int IntKind.i64 (IntKind.i64.wrap (i + 1))], upd := [none, none, none, none, none, none, none], new := [] })) Tree.fail) Tree.fail) (Tree.ite ((V.toInt ((rs.getD (0 + i.toNat) []).getD 0 V.any)) == p1.c.1 && ((V.toInt ((rs.getD (0 + i.toNat) []).getD 1 V.any)) == p1.c.2 && ((V.toInt ((rs.getD (0 + i.toNat) []).getD 2 V.any)) == p1.c.3 && ((V.toInt ((rs.getD (0 + i.toNat) []).getD 3 V.any)) == p1.c.4 && ((V.toInt ((rs.getD (0 + i.toNat) []).getD 4 V.any)) == p1.c.5 && ((V.toInt ((rs.getD (0 + i.toNat) []).getD 5 V.any)) == p1.c.6 && ((V.toInt ((rs.getD (0 + i.toNat) []).getD 6 V.any)) == p1.c.7 && ((V.toInt ((rs.getD (0 + i.toNat) []).getD 7 V.any)) == p1.c.8 && true))))))) && ((V.toInt ((rs.getD (0 + i.toNat) []).getD 8 V.any)) == p1.2 && true)) (Tree.ite (true && decide (0 ≤ e1.m) && decide (e1.m ≤ 2)) (Tree.ite (decide (e1.m.toNat - 0 ≤ 2) && decide ((↑(e1.m.toNat - 0) : Int) = (↑(e1.m.toNat - 0) : Int))) (Tree.ite (cntE e1 (e1.m.toNat - 0) now win == 2) (Tree.ite (decide (0 + m ≤ qs.length) && true) (Tree.ite (decide ((List.take m (List.drop 0 qs) ++ [[V.int IntKind.i64 e1.s.1, V.int IntKind.i64 e1.s.2, V.int IntKind.i64 e1.s.q.1, V.int IntKind.i64 e1.s.q.2, V.int IntKind.i64 e1.s.q.3, V.int IntKind.u8 e1.s.g.1, V.int IntKind.u8 e1.s.g.2, V.int IntKind.u8 e1.s.g.3, V.int IntKind.u8 e1.s.g.4, V.int IntKind.u8 e1.s.g.5, V.int IntKind.u8 e1.s.g.6, V.int IntKind.u8 e1.s.g.7, V.int IntKind.u8 e1.s.g.8, V.int IntKind.i64 e1.s.5, V.int IntKind.u8 e1.s.snd.c.1, V.int IntKind.u8 e1.s.snd.c.2, V.int IntKind.u8 e1.s.snd.c.3, V.int IntKind.u8 e1.s.snd.c.4, V.int IntKind.u8 e1.s.snd.c.5, V.int IntKind.u8 e1.s.snd.c.6, V.int IntKind.u8 e1.s.snd.c.7, V.int IntKind.u8 e1.s.snd.c.8, V.int IntKind.i64 e1.s.snd.2, V.int IntKind.u8 e1.s.rcv.c.1, V.int IntKind.u8 e1.s.rcv.c.2, V.int IntKind.u8 e1.s.rcv.c.3, V.int IntKind.u8 e1.s.rcv.c.4, V.int IntKind.u8 e1.s.rcv.c.5, V.int IntKind.u8 e1.s.rcv.c.6, V.int IntKind.u8 e1.s.rcv.c.7, V.int IntKind.u8 e1.s.rcv.c.8, V.int IntKind.i64 e1.s.rcv.2]]).length * 88 ≤ 140737488355328)) (Tree.leaf { e := Ex.nrm, vs := [V.ptr 0 0 0 0, V.int IntKind.i64 now, V.sl 7 0 0 32 (List.take m (List.drop 0 qs) ++ [[V.int IntKind.i64 e1.s.1, V.int IntKind.i64 e1.s.2, V.int IntKind.i64 e1.s.q.1, V.int IntKind.i64 e1.s.q.2, V.int IntKind.i64 e1.s.q.3, V.int IntKind.u8 e1.s.g.1, V.int IntKind.u8 e1.s.g.2, V.int IntKind.u8 e1.s.g.3, V.int IntKind.u8 e1.s.g.4, V.int IntKind.u8 e1.s.g.5, V.int IntKind.u8 e1.s.g.6, V.int IntKind.u8 e1.s.g.7, V.int IntKind.u8 e1.s.g.8, V.int IntKind.i64 e1.s.5, V.int IntKind.u8 e1.s.snd.c.1, V.int IntKind.u8 e1.s.snd.c.2, V.int IntKind.u8 e1.s.snd.c.3, V.int IntKind.u8 e1.s.snd.c.4, V.int IntKind.u8 e1.s.snd.c.5, V.int IntKind.u8 e1.s.snd.c.6, V.int IntKind.u8 e1.s.snd.c.7, V.int IntKind.u8 e1.s.snd.c.8, V.int IntKind.i64 e1.s.snd.2, V.int IntKind.u8 e1.s.rcv.c.1, V.int IntKind.u8 e1.s.rcv.c.2, V.int IntKind.u8 e1.s.rcv.c.3, V.int IntKind.u8 e1.s.rcv.c.4, V.int IntKind.u8 e1.s.rcv.c.5, V.int IntKind.u8 e1.s.rcv.c.6, V.int IntKind.u8 e1.s.rcv.c.7, V.int IntKind.u8 e1.s.rcv.c.8, V.int IntKind.i64 e1.s.rcv.2]]).length none, V.sl 2 0 0 9 3 none, V.int IntKind.i64 3, V.int IntKind.i64 (IntKind.i64.wrap (i + 1))], upd := [none, some none, none, none, none, none, none], new := [Body.rows [K.int IntKind.i64, K.int IntKind.i64, K.int IntKind.i64, K.int IntKind.i64, K.int IntKind.i64, K.int IntKind.u8, K.int IntKind.u8, K.int IntKind.u8, K.int IntKind.u8, K.int IntKind.u8, K.int IntKind.u8, K.int IntKind.u8, K.int IntKind.u8, K.int IntKind.i64, K.int IntKind.u8, K.int IntKind.u8, K.int IntKind.u8, K.int IntKind.u8, K.int IntKind.u8, K.int IntKind.u8, K.int IntKind.u8, K.int IntKind.u8, K.int IntKind.i64, K.int IntKind.u8, K.int IntKind.u8, K.int IntKind.u8, K.int IntKind.u8, K.int IntKind.u8, K.int IntKind.u8, K.int IntKind.u8, K.int IntKind.u8, K.int IntKind.i64] (List.take m (List.drop 0 qs) ++ [[V.int IntKind.i64 e1.s.1, V.int IntKind.i64 e1.s.2, V.int IntKind.i64 e1.s.q.1, V.int IntKind.i64 e1.s.q.2, V.int IntKind.i64 e1.s.q.3, V.int IntKind.u8 e1.s.g.1, V.int IntKind.u8 e1.s.g.2, V.int IntKind.u8 e1.s.g.3, V.int IntKind.u8 e1.s.g.4, V.int IntKind.u8 e1.s.g.5, V.int IntKind.u8 e1.s.g.6, V.int IntKind.u8 e1.s.g.7, V.int IntKind.u8 e1.s.g.8, V.int IntKind.i64 e1.s.5, V.int IntKind.u8 e1.s.snd.c.1, V.int IntKind.u8 e1.s.snd.c.2, V.int IntKind.u8 e1.s.snd.c.3, V.int IntKind.u8 e1.s.snd.c.4, V.int IntKind.u8 e1.s.snd.c.5, V.int IntKind.u8 e1.s.snd.c.6, V.int IntKind.u8 e1.s.snd.c.7, V.int IntKind.u8 e1.s.snd.c.8, V.int IntKind.i64 e1.s.snd.2, V.int IntKind.u8 e1.s.rcv.c.1, V.int IntKind.u8 e1.s.rcv.c.2, V.int IntKind.u8 e1.s.rcv.c.3, V.int IntKind.u8 e1.s.rcv.c.4, V.int IntKind.u8 e1.s.rcv.c.5, V.int IntKind.u8 e1.s.rcv.c.6, V.int IntKind.u8 e1.s.rcv.c.7, V.int IntKind.u8 e1.s.rcv.c.8, V.int IntKind.i64 e1.s.rcv.2]])] }) Tree.fail) Tree.fail) (Tree.leaf { e := Ex.nrm, vs := [V.ptr 0 0 0 0, V.int IntKind.i64 now, V.sl 1 0 0 32 m none, V.sl 2 0 0 9 3 none, V.int IntKind.i64 3, V.int IntKind.i64 (IntKind.i64.wrap (i + 1))], upd := [none, none, none, none, none, none, none], new := [] })) Tree.fail) Tree.fail) (Tree.ite ((V.toInt ((rs.getD (0 + i.toNat) []).getD 0 V.any)) == p2.c.1 && ((V.toInt ((rs.getD (0 + i.toNat) []).getD 1 V.any)) == p2.c.2 && ((V.toInt ((rs.getD (0 + i.toNat) []).getD 2 V.any)) == p2.c.3 && ((V.toInt ((rs.getD (0 + i.toNat) []).getD 3 V.any)) == p2.c.4 && ((V.toInt ((rs.getD (0 + i.toNat) []).getD 4 V.any)) == p2.c.5 && ((V.toInt ((rs.getD (0 + i.toNat) []).getD 5 V.any)) == p2.c.6 && ((V.toInt ((rs.getD (0 + i.toNat) []).getD 6 V.any)) == p2.c.7 && ((V.toInt ((rs.getD (0 + i.toNat) []).getD 7 V.any)) == p2.c.8 && true))))))) && ((V.toInt ((rs.getD (0 + i.toNat) []).getD 8 V.any)) == p2.2 && true)) (Tree.ite (true && decide (0 ≤ e2.m) && decide (e2.m ≤ 2)) (Tree.ite (decide (e2.m.toNat - 0 ≤ 2) && decide ((↑(e2.m.toNat - 0) : Int) = (↑(e2.m.toNat - 0) : Int))) (Tree.ite (cntE e2 (e2.m.toNat - 0) now win == 2) (Tree.ite (decide (0 + m ≤ qs.length) && true) (Tree.ite (decide ((List.take m (List.drop 0 qs) ++ [[V.int IntKind.i64 e2.s.1, V.int IntKind.i64 e2.s.2, V.int IntKind.i64 e2.s.q.1, V.int IntKind.i64 e2.s.q.2, V.int IntKind.i64 e2.s.q.3, V.int IntKind.u8 e2.s.g.1, V.int IntKind.u8 e2.s.g.2, V.int IntKind.u8 e2.s.g.3, V.int IntKind.u8 e2.s.g.4, V.int IntKind.u8 e2.s.g.5, V.int IntKind.u8 e2.s.g.6, V.int IntKind.u8 e2.s.g.7, V.int IntKind.u8 e2.s.g.8, V.int IntKind.i64 e2.s.5, V.int IntKind.u8 e2.s.snd.c.1, V.int IntKind.u8 e2.s.snd.c.2, V.int IntKind.u8 e2.s.snd.c.3, V.int IntKind.u8 e2.s.snd.c.4, V.int IntKind.u8 e2.s.snd.c.5, V.int IntKind.u8 e2.s.snd.c.6, V.int IntKind.u8 e2.s.snd.c.7, V.int IntKind.u8 e2.s.snd.c.8, V.int IntKind.i64 e2.s.snd.2, V.int IntKind.u8 e2.s.rcv.c.1, V.int IntKind.u8 e2.s.rcv.c.2, V.int IntKind.u8 e2.s.rcv.c.3, V.int IntKind.u8 e2.s.rcv.c.4, V.int IntKind.u8 e2.s.rcv.c.5, V.int IntKind.u8 e2.s.rcv.c.6, V.int IntKind.u8 e2.s.rcv.c.7, V.int IntKind.u8 e2.s.rcv.c.8, V.int IntKind.i64 e2.s.rcv.2]]).length * 88 ≤ 140737488355328)) (Tree.leaf { e := Ex.nrm, vs := [V.ptr 0 0 0 0, V.int IntKind.i64 now, V.sl 7 0 0 32 (List.take m (List.drop 0 qs) ++ [[V.int IntKind.i64 e2.s.1, V.int IntKind.i64 e2.s.2, V.int IntKind.i64 e2.s.q.1, V.int IntKind.i64 e2.s.q.2, V.int IntKind.i64 e2.s.q.3, V.int IntKind.u8 e2.s.g.1, V.int IntKind.u8 e2.s.g.2, V.int IntKind.u8 e2.s.g.3, V.int IntKind.u8 e2.s.g.4, V.int IntKind.u8 e2.s.g.5, V.int IntKind.u8 e2.s.g.6, V.int IntKind.u8 e2.s.g.7, V.int IntKind.u8 e2.s.g.8, V.int IntKind.i64 e2.s.5, V.int IntKind.u8 e2.s.snd.c.1, V.int IntKind.u8 e2.s.snd.c.2, V.int IntKind.u8 e2.s.snd.c.3, V.int IntKind.u8 e2.s.snd.c.4, V.int IntKind.u8 e2.s.snd.c.5, V.int IntKind.u8 e2.s.snd.c.6, V.int IntKind.u8 e2.s.snd.c.7, V.int IntKind.u8 e2.s.snd.c.8, V.int IntKind.i64 e2.s.snd.2, V.int IntKind.u8 e2.s.rcv.c.1, V.int IntKind.u8 e2.s.rcv.c.2, V.int IntKind.u8 e2.s.rcv.c.3, V.int IntKind.u8 e2.s.rcv.c.4, V.int IntKind.u8 e2.s.rcv.c.5, V.int IntKind.u8 e2.s.rcv.c.6, V.int IntKind.u8 e2.s.rcv.c.7, V.int IntKind.u8 e2.s.rcv.c.8, V.int IntKind.i64 e2.s.rcv.2]]).length none, V.sl 2 0 0 9 3 none, V.int IntKind.i64 3, V.int IntKind.i64 (IntKind.i64.wrap (i + 1))], upd := [none, some none, none, none, none, none, none], new := [Body.rows [K.int IntKind.i64, K.int IntKind.i64, K.int IntKind.i64, K.int IntKind.i64, K.int IntKind.i64, K.int IntKind.u8, K.int IntKind.u8, K.int IntKind.u8, K.int IntKind.u8, K.int IntKind.u8, K.int IntKind.u8, K.int IntKind.u8, K.int IntKind.u8, K.int IntKind.i64, K.int IntKind.u8, K.int IntKind.u8, K.int IntKind.u8, K.int IntKind.u8, K.int IntKind.u8, K.int IntKind.u8, K.int IntKind.u8, K.int IntKind.u8, K.int IntKind.i64, K.int IntKind.u8, K.int IntKind.u8, K.int IntKind.u8, K.int IntKind.u8, K.int IntKind.u8, K.int IntKind.u8, K.int IntKind.u8, K.int IntKind.u8, K.int IntKind.i64] (List.take m (List.drop 0 qs) ++ [[V.int IntKind.i64 e2.s.1, V.int IntKind.i64 e2.s.2, V.int IntKind.i64 e2.s.q.1, V.int IntKind.i64 e2.s.q.2, V.int IntKind.i64 e2.s.q.3, V.int IntKind.u8 e2.s.g.1, V.int IntKind.u8 e2.s.g.2, V.int IntKind.u8 e2.s.g.3, V.int IntKind.u8 e2.s.g.4, V.int IntKind.u8 e2.s.g.5, V.int IntKind.u8 e2.s.g.6, V.int IntKind.u8 e2.s.g.7, V.int IntKind.u8 e2.s.g.8, V.int IntKind.i64 e2.s.5, V.int IntKind.u8 e2.s.snd.c.1, V.int IntKind.u8 e2.s.snd.c.2, V.int IntKind.u8 e2.s.snd.c.3, V.int IntKind.u8 e2.s.snd.c.4, V.int IntKind.u8 e2.s.snd.c.5, V.int IntKind.u8 e2.s.snd.c.6, V.int IntKind.u8 e2.s.snd.c.7, V.int IntKind.u8 e2.s.snd.c.8, V.int IntKind.i64 e2.s.snd.2, V.int IntKind.u8 e2.s.rcv.c.1, V.int IntKind.u8 e2.s.rcv.c.2, V.int IntKind.u8 e2.s.rcv.c.3, V.int IntKind.u8 e2.s.rcv.c.4, V.int IntKind.u8 e2.s.rcv.c.5, V.int IntKind.u8 e2.s.rcv.c.6, V.int IntKind.u8 e2.s.rcv.c.7, V.int IntKind.u8 e2.s.rcv.c.8, V.int IntKind.i64 e2.s.rcv.2]])] }) Tree.fail) Tree.fail) (Tree.leaf { e := Ex.nrm, vs := [V.ptr 0 0 0 0, V.int IntKind.i64 now, V.sl 1 0 0 32 m none, V.sl 2 0 0 9 3 none, V.int IntKind.i64 3, V.int IntKind.i64 (IntKind.i64.wrap (i + 1))], upd := [none, none, none, none, none, none, none], new := [] })) Tree.fail) Tree.fail) Tree.fail))) Tree.fail) Tree.fail) (Tree.leaf { e := Ex.exit 0, vs := [V.sl 1 0 0 32 m none], upd := [none, none, none, none, none, none, none], new := [] })) := by
  kernel_rfl
theorem qs_3 (own : Ck) (win now : Int) (k : Nat) (l : List Prt) (q : List Ste) (x : Prt) (p0 p1 p2 : Prt) (e0 e1 e2 : Ent) (hx : l[k]? = some x) (hk : k < 3) (hq : q.length < 1000) (hi : inE x [(p0, e0), (p1, e1), (p2, e2)] = true) (hw : wfE [(p0, e0), (p1, e1), (p2, e2)] = true) :
    (qRd (qV now q.length 3 k) (qBl (q.map Ste.vs) (l.map Prt.vs) own win [(p0, e0), (p1, e1), (p2, e2)])).den = some (match qC now win x [(p0, e0), (p1, e1), (p2, e2)] with
      | true => ⟨.nrm, qV now q.length 3 (k + 1 : Nat) |>.set 2 (.sl 7 0 0 32 (q ++ [(lastE x [(p0, e0), (p1, e1), (p2, e2)]).1]).length none), none :: some none :: List.replicate 5 none, [.rows stK ((q ++ [(lastE x [(p0, e0), (p1, e1), (p2, e2)]).1]).map Ste.vs)]⟩
      | false => ⟨.nrm, qV now q.length 3 (k + 1 : Nat), List.replicate 7 none, []⟩) := by
  have st := qr_3 own win now k (l.map Prt.vs) (q.map Ste.vs) q.length p0 p1 p2 e0 e1 e2
  have ht : List.take q.length (List.drop 0 (q.map Ste.vs)) = q.map Ste.vs := by rw [List.drop_zero]; exact List.take_of_length_le (by simp)
  have hgi : (l.map Prt.vs).getD k [] = x.vs := by
    rw [List.getD_eq_getElem?_getD, List.getElem?_map, hx]; rfl
  have hkl : k < l.length := (List.getElem?_eq_some_iff.1 hx).1
  obtain ⟨⟨x0, x1, x2, x3⟩, x4, x5, x6, x7, x8⟩ := vsp x
  have w1 : IntKind.i64.wrap (((k : Nat) : Int) + 1) = ((k + 1 : Nat) : Int) := by rw [wrap64_id (by omega) (by omega)]; omega
  simp only [wfE, List.all_cons, List.all_nil, Bool.and_eq_true, decide_eq_true_eq, and_true] at hw
  simp only [hgi, x0, x1, x2, x3, x4, x5, x6, x7, x8, vsx, vsxS, eqf, w1, Int.toNat_natCast, Nat.zero_add, Nat.sub_zero, List.length_map, ht, appS] at st
  rw [decide_eq_true (show ((k : Nat) : Int) < (3 : Int) by omega), decide_eq_true (show (0 : Int) ≤ ((k : Nat) : Int) by omega), decide_eq_true hkl, decide_eq_true (show q.length ≤ q.length from Nat.le_refl _)] at st
  rw [decide_eq_true (show 0 ≤ e0.m from hw.1.1), decide_eq_true (show e0.m ≤ 2 from hw.1.2), decide_eq_true (show e0.m.toNat ≤ 2 by have := hw.1.2; omega), decide_eq_true (show (q ++ [e0.s]).length * 88 ≤ 140737488355328 by rw [List.length_append, List.length_singleton]; omega)] at st
  rw [decide_eq_true (show 0 ≤ e1.m from hw.2.1.1), decide_eq_true (show e1.m ≤ 2 from hw.2.1.2), decide_eq_true (show e1.m.toNat ≤ 2 by have := hw.2.1.2; omega), decide_eq_true (show (q ++ [e1.s]).length * 88 ≤ 140737488355328 by rw [List.length_append, List.length_singleton]; omega)] at st
  rw [decide_eq_true (show 0 ≤ e2.m from hw.2.2.1), decide_eq_true (show e2.m ≤ 2 from hw.2.2.2), decide_eq_true (show e2.m.toNat ≤ 2 by have := hw.2.2.2; omega), decide_eq_true (show (q ++ [e2.s]).length * 88 ≤ 140737488355328 by rw [List.length_append, List.length_singleton]; omega)] at st
  refine st.trans ?_
  clear st
  revert hi
  simp only [inE, qC, lastE]
  cases x.eqB p0
  · cases x.eqB p1
    · cases x.eqB p2
      · exact fun h => Bool.noConfusion (show false = true from h)
      · cases cntE e2 e2.m.toNat now win == 2
        · exact fun _ => by kernel_rfl
        · exact fun _ => by kernel_rfl
    · cases cntE e1 e1.m.toNat now win == 2
      · exact fun _ => by kernel_rfl
      · exact fun _ => by kernel_rfl
  · cases cntE e0 e0.m.toNat now win == 2
    · exact fun _ => by kernel_rfl
    · exact fun _ => by kernel_rfl
theorem qa_3 (own : Ck) (win now : Int) (l : List Prt) (p0 p1 p2 : Prt) (e0 e1 e2 : Ent) (hl : l.length = 3) (hi : ∀ x ∈ l, inE x [(p0, e0), (p1, e1), (p2, e2)] = true) (hw : wfE [(p0, e0), (p1, e1), (p2, e2)] = true) :
    ∀ (rest : List Prt) (k : Nat) (q : List Ste), l.drop k = rest → k ≤ 3 → q.length ≤ k →
    ∃ f, (qLN f (qV now q.length 3 k) (qBl (q.map Ste.vs) (l.map Prt.vs) own win [(p0, e0), (p1, e1), (p2, e2)])).den = some (resQ 3 q.length (q ++ quF now win [(p0, e0), (p1, e1), (p2, e2)] rest) (!(quF now win [(p0, e0), (p1, e1), (p2, e2)] rest).isEmpty)) := by
  intro rest
  induction rest with
  | nil =>
    intro k q hd hk hq
    have hk5 : k = 3 := by
      have := congrArg List.length hd
      rw [List.length_drop, hl, List.length_nil] at this
      omega
    subst hk5
    refine ⟨1, ?_⟩
    have hx := qr_3 own win now ((3 : Nat) : Int) (l.map Prt.vs) (q.map Ste.vs) q.length p0 p1 p2 e0 e1 e2
    rw [decide_eq_false (show ¬ ((3 : Nat) : Int) < (3 : Int) by decide)] at hx
    exact loopN_end hx (by show Ex.exit 0 ≠ Ex.nrm; decide)
  | cons x rest ih =>
    intro k q hd hk hq
    obtain ⟨hx, hd', hkl⟩ := drop_cons hd
    have st := qs_3 own win now k l q x p0 p1 p2 e0 e1 e2 hx (by omega) (by omega) (hi x (List.mem_of_getElem? hx)) hw
    cases hc : qC now win x [(p0, e0), (p1, e1), (p2, e2)] with
    | false =>
      rw [hc] at st
      obtain ⟨f, hf⟩ := ih (k + 1) q hd' (by omega) (by omega)
      refine ⟨f + 1, ?_⟩
      have hF : quF now win [(p0, e0), (p1, e1), (p2, e2)] (x :: rest) = quF now win [(p0, e0), (p1, e1), (p2, e2)] rest := by
        unfold quF
        rw [List.filter_cons_of_neg (by rw [hc]; simp)]
      rw [hF]
      refine loopN_step st rfl (vals' := qV now q.length 3 (k + 1 : Nat)) (bs' := qBl (q.map Ste.vs) (l.map Prt.vs) own win [(p0, e0), (p1, e1), (p2, e2)]) (by kernel_rfl) (by kernel_rfl) (by kernel_rfl) hf ?_
      generalize quF now win [(p0, e0), (p1, e1), (p2, e2)] rest = F
      cases F with
      | nil => (show (seqAfter _ _ _).den = some _; kernel_rfl)
      | cons a b => (show (seqAfter _ _ _).den = some _; kernel_rfl)
    | true =>
      rw [hc] at st
      obtain ⟨f, hf⟩ := ih (k + 1) (q ++ [(lastE x [(p0, e0), (p1, e1), (p2, e2)]).1]) hd' (by omega) (by rw [List.length_append, List.length_singleton]; omega)
      refine ⟨f + 1, ?_⟩
      have hF : quF now win [(p0, e0), (p1, e1), (p2, e2)] (x :: rest) = (lastE x [(p0, e0), (p1, e1), (p2, e2)]).1 :: quF now win [(p0, e0), (p1, e1), (p2, e2)] rest := by
        unfold quF
        rw [List.filter_cons_of_pos (by rw [hc]), List.map_cons]
      rw [hF]
      generalize (lastE x [(p0, e0), (p1, e1), (p2, e2)]).1 = y at st hf ⊢
      refine loopN_step st rfl (vals' := qV now (q ++ [y]).length 3 (k + 1 : Nat)) (bs' := qBl ((q ++ [y]).map Ste.vs) (l.map Prt.vs) own win [(p0, e0), (p1, e1), (p2, e2)]) (by kernel_rfl) (by kernel_rfl) (by kernel_rfl) hf ?_
      generalize quF now win [(p0, e0), (p1, e1), (p2, e2)] rest = F
      rw [show q ++ [y] ++ F = q ++ y :: F by simp]
      cases F with
      | nil => (show (seqAfter _ _ _).den = some _; kernel_rfl)
      | cons a b => (show (seqAfter _ _ _).den = some _; kernel_rfl)
theorem qr_4 (own : Ck) (win now i : Int) (rs qs : List (List V)) (m : Nat) (p0 p1 p2 p3 : Prt) (e0 e1 e2 e3 : Ent) : (qRd (qV now m 4 i) (qBl qs rs own win [(p0, e0), (p1, e1), (p2, e2), (p3, e3)])).den = Tree.den (Tree.ite (decide (i < 4)) (Tree.ite (decide (0 ≤ i) && decide (i < 4)) (Tree.ite (decide (0 + i.toNat < rs.length)) (Tree.ite ((V.toInt ((rs.getD (0 + i.toNat) []).getD 0 V.any)) == p0.c.1 && ((V.toInt ((rs.getD (0 + i.toNat) []).getD 1 V.any)) == p0.c.2 && ((V.toInt ((rs.getD (0 + i.toNat) []).getD 2 V.any)) == p0.c.3 && ((V.toInt ((rs.getD (0 + i.toNat) []).getD 3 V.any)) == p0.c.4 && ((V.toInt ((rs.getD (0 + i.toNat) []).getD 4 V.any)) == p0.c.5 && ((V.toInt ((rs.getD (0 + i.toNat) []).getD 5 V.any)) == p0.c.6 && ((V.toInt ((rs.getD (0 + i.toNat) []).getD 6 V.any)) == p0.c.7 && ((V.toInt ((rs.getD (0 + i.toNat) []).getD 7 V.any)) == p0.c.8 && true))))))) && ((V.toInt ((rs.getD (0 + i.toNat) []).getD 8 V.any)) == p0.2 && true)) (Tree.ite (true && decide (0 ≤ e0.m) && decide (e0.m ≤ 2)) (Tree.ite (decide (e0.m.toNat - 0 ≤ 2) && decide ((↑(e0.m.toNat - 0) : Int) = (↑(e0.m.toNat - 0) : Int))) (Tree.ite (cntE e0 (e0.m.toNat - 0) now win == 2) (Tree.ite (decide (0 + m ≤ qs.length) && true) (Tree.ite (decide ((List.take m (List.drop 0 qs) ++ [[V.int IntKind.i64 e0.s.1, V.int IntKind.i64 e0.s.2, V.int IntKind.i64 e0.s.q.1, V.int IntKind.i64 e0.s.q.2, V.int IntKind.i64 e0.s.q.3, V.int IntKind.u8 e0.s.g.1, V.int IntKind.u8 e0.s.g.2, V.int IntKind.u8 e0.s.g.3, V.int IntKind.u8 e0.s.g.4, V.int IntKind.u8 e0.s.g.5, V.int IntKind.u8 e0.s.g.6, V.int IntKind.u8 e0.s.g.7, V.int IntKind.u8 e0.s.g.8, V.int IntKind.i64 e0.s.5, V.int IntKind.u8 e0.s.snd.c.1, V.int IntKind.u8 e0.s.snd.c.2, V.int IntKind.u8 e0.s.snd.c.3, V.int IntKind.u8 e0.s.snd.c.4, V.int IntKind.u8 e0.s.snd.c.5, V.int IntKind.u8 e0.s.snd.c.6, V.int IntKind.u8 e0.s.snd.c.7, V.int IntKind.u8 e0.s.snd.c.8, V.int IntKind.i64 e0.s.snd.2, V.int IntKind.u8 e0.s.rcv.c.1, V.int IntKind.u8 e0.s.rcv.c.2, V.int IntKind.u8 e0.s.rcv.c.3, V.int IntKind.u8 e0.s.rcv.c.4, V.int IntKind.u8 e0.s.rcv.c.5, V.int IntKind.u8 e0.s.rcv.c.6, V.int IntKind.u8 e0.s.rcv.c.7, V.int IntKind.u8 e0.s.rcv.c.8, V.int IntKind.i64 e0.s.rcv.2]]).length * 88 ≤ 140737488355328)) (Tree.leaf { e := Ex.nrm, vs := [V.ptr 0 0 0 0, V.int IntKind.i64 now, V.sl 8 0 0 32 (List.take m (List.drop 0 qs) ++ [[V.int IntKind.i64 e0.s.1, V.int IntKind.i64 e0.s.2, V.int IntKind.i64 e0.s.q.1, V.int IntKind.i64 e0.s.q.2, V.int IntKind.i64 e0.s.q.3, V.int IntKind.u8 e0.s.g.1, V.int IntKind.u8 e0.s.g.2, V.int IntKind.u8 e0.s.g.3, V.int IntKind.u8 e0.s.g.4, V.int IntKind.u8 e0.s.g.5, V.int IntKind.u8 e0.s.g.6, V.int IntKind.u8 e0.s.g.7, V.int IntKind.u8 e0.s.g.8, V.int IntKind.i64 e0.s.5, V.int IntKind.u8 e0.s.snd.c.1, V.int IntKind.u8 e0.s.snd.c.2, V.int IntKind.u8 e0.s.snd.c.3, V.int IntKind.u8 e0.s.snd.c.4, V.int IntKind.u8 e0.s.snd.c.5, V.int IntKind.u8 e0.s.snd.c.6, V.int IntKind.u8 e0.s.snd.c.7, V.int IntKind.u8 e0.s.snd.c.8, V.int IntKind.i64 e0.s.snd.2, V.int IntKind.u8 e0.s.rcv.c.1, V.int IntKind.u8 e0.s.rcv.c.2, V.int IntKind.u8 e0.s.rcv.c.3, V.int IntKind.u8 e0.s.rcv.c.4, V.int IntKind.u8 e0.s.rcv.c.5, V.int IntKind.u8 e0.s.rcv.c.6, V.int IntKind.u8 e0.s.rcv.c.7, V.int IntKind.u8 e0.s.rcv.c.8, V.int IntKind.i64 e0.s.rcv.2]]).length none, V.sl 2 0 0 9 4 none, V.int IntKind.i64 4, V.int IntKind.i64 (IntKind.i64.wrap (i + 1))], upd := [none, some none, none, none, none, none, none, none], new := [Body.rows [K.int IntKind.i64, K.int IntKind.i64, K.int IntKind.i64, K.int IntKind.i64, K.int IntKind.i64, K.int IntKind.u8, K.int IntKind.u8, K.int IntKind.u8, K.int IntKind.u8, K.int IntKind.u8, K.int IntKind.u8, K.int IntKind.u8, K.int IntKind.u8, K.int IntKind.i64, K.int IntKind.u8, K.int IntKind.u8, K.int IntKind.u8, K.int IntKind.u8, K.int IntKind.u8, K.int IntKind.u8, K.int IntKind.u8, K.int IntKind.u8, K.int IntKind.i64, K.int IntKind.u8, K.int IntKind.u8, K.int IntKind.u8, K.int IntKind.u8, K.int IntKind.u8, K.int IntKind.u8, K.int IntKind.u8, K.int IntKind.u8, K.int IntKind.i64] (List.take m (List.drop 0 qs) ++ [[V.int IntKind.i64 e0.s.1, V.int IntKind.i64 e0.s.2, V.int IntKind.i64 e0.s.q.1, V.int IntKind.i64 e0.s.q.2, V.int IntKind.i64 e0.s.q.3, V.int IntKind.u8 e0.s.g.1, V.int IntKind.u8 e0.s.g.2, V.int IntKind.u8 e0.s.g.3, V.int IntKind.u8 e0.s.g.4, V.int IntKind.u8 e0.s.g.5, V.int IntKind.u8 e0.s.g.6, V.int IntKind.u8 e0.s.g.7, V.int IntKind.u8 e0.s.g.8, V.int IntKind.i64 e0.s.5, V.int IntKind.u8 e0.s.snd.c.1, V.int IntKind.u8 e0.s.snd.c.2, V.int IntKind.u8 e0.s.snd.c.3, V.int IntKind.u8 e0.s.snd.c.4, V.int IntKind.u8 e0.s.snd.c.5, V.int IntKind.u8 e0.s.snd.c.6, V.int IntKind.u8 e0.s.snd.c.7, V.int IntKind.u8 e0.s.snd.c.8, V.int IntKind.i64 e0.s.snd.2, V.int IntKind.u8 e0.s.rcv.c.1, V.int IntKind.u8 e0.s.rcv.c.2, V.int IntKind.u8 e0.s.rcv.c.3, V.int IntKind.u8 e0.s.rcv.c.4, V.int IntKind.u8 e0.s.rcv.c.5, V.int IntKind.u8 e0.s.rcv.c.6, V.int IntKind.u8 e0.s.rcv.c.7, V.int IntKind.u8 e0.s.rcv.c.8, V.int IntKind.i64 e0.s.rcv.2]])] }) Tree.fail) Tree.fail) (Tree.leaf { e := Ex.nrm, vs := [V.ptr 0 0 0 0, V.int IntKind.i64 now, V.sl 1 0 0 32 m none, V.sl 2 0 0 9 4 none, V.int IntKind.i64 4, V.int IntKind.i64 (IntKind.i64.wrap (i + 1))], upd := [none, none, none, none, none, none, none, none], new := [] })) Tree.fail) Tree.fail) (Tree.ite ((V.toInt ((rs.getD (0 + i.toNat) []).getD 0 V.any)) == p1.c.1 && ((V.toInt ((rs.getD (0 + i.toNat) []).getD 1 V.any)) == p1.c.2 && ((V.toInt ((rs.getD (0 + i.toNat) []).getD 2 V.any)) == p1.c.3 && ((V.toInt ((rs.getD (0 + i.toNat) []).getD 3 V.any)) == p1.c.4 && ((V.toInt ((rs.getD (0 + i.toNat) []).getD 4 V.any)) == p1.c.5 && ((V.toInt ((rs.getD (0 + i.toNat) []).getD 5 V.any)) == p1.c.6 && ((V.toInt ((rs.getD (0 + i.toNat) []).getD 6 V.any)) == p1.c.7 && ((V.toInt ((rs.getD (0 + i.toNat) []).getD 7 V.any)) == p1.c.8 && true))))))) && ((V.toInt ((rs.getD (0 + i.toNat) []).getD 8 V.any)) == p1.2 && true)) (Tree.ite (true && decide (0 ≤ e1.m) && decide (e1.m ≤ 2)) (Tree.ite (decide (e1.m.toNat - 0 ≤ 2) && decide ((↑(e1.m.toNat - 0) : Int) = (↑(e1.m.toNat - 0) : Int))) (Tree.ite (cntE e1 (e1.m.toNat - 0) now win == 2) (Tree.ite (decide (0 + m ≤ qs.length) && true) (Tree.ite (decide ((List.take m (List.drop 0 qs) ++ [[V.int IntKind.i64 e1.s.1, V.int IntKind.i64 e1.s.2, V.int IntKind.i64 e1.s.q.1, V.int IntKind.i64 e1.s.q.2, V.int IntKind.i64 e1.s.q.3, V.int IntKind.u8 e1.s.g.1, V.int IntKind.u8 e1.s.g.2, V.int IntKind.u8 e1.s.g.3, V.int IntKind.u8 e1.s.g.4, V.int IntKind.u8 e1.s.g.5, V.int IntKind.u8 e1.s.g.6, V.int IntKind.u8 e1.s.g.7, V.int IntKind.u8 e1.s.g.8, V.int IntKind.i64 e1.s.5, V.int IntKind.u8 e1.s.snd.c.1, V.int IntKind.u8 e1.s.snd.c.2, V.int IntKind.u8 e1.s.snd.c.3, V.int IntKind.u8 e1.s.snd.c.4, V.int IntKind.u8 e1.s.snd.c.5, V.int IntKind.u8 e1.s.snd.c.6, V.int IntKind.u8 e1.s.snd.c.7, V.int IntKind.u8 e1.s.snd.c.8, V.int IntKind.i64 e1.s.snd.2, V.int IntKind.u8 e1.s.rcv.c.1, V.int IntKind.u8 e1.s.rcv.c.2, V.int IntKind.u8 e1.s.rcv.c.3, V.int IntKind.u8 e1.s.rcv.c.4, V.int IntKind.u8 e1.s.rcv.c.5, V.int IntKind.u8 e1.s.rcv.c.6, V.int IntKind.u8 e1.s.rcv.c.7, V.int IntKind.u8 e1.s.rcv.c.8, V.int IntKind.i64 e1.s.rcv.2]]).length * 88 ≤ 140737488355328)) (Tree.leaf { e := Ex.nrm, vs := [V.ptr 0 0 0 0, V.int IntKind.i64 now, V.sl 8 0 0 32 (List.take m (List.drop 0 qs) ++ [[V.int IntKind.i64 e1.s.1, V.int IntKind.i64 e1.s.2, V.int IntKind.i64 e1.s.q.1, V.int IntKind.i64 e1.s.q.2, V.int IntKind.i64 e1.s.q.3, V.int IntKind.u8 e1.s.g.1, V.int IntKind.u8 e1.s.g.2, V.int IntKind.u8 e1.s.g.3, V.int IntKind.u8 e1.s.g.4, V.int IntKind.u8 e1.s.g.5, V.int IntKind.u8 e1.s.g.6, V.int IntKind.u8 e1.s.g.7, V.int IntKind.u8 e1.s.g.8, V.int IntKind.i64 e1.s.5, V.int IntKind.u8 e1.s.snd.c.1, V.int IntKind.u8 e1.s.snd.c.2, V.int IntKind.u8 e1.s.snd.c.3, V.int IntKind.u8 e1.s.snd.c.4, V.int IntKind.u8 e1.s.snd.c.5, V.int IntKind.u8 e1.s.snd.c.6, V.int IntKind.u8 e1.s.snd.c.7, V.int IntKind.u8 e1.s.snd.c.8, V.int IntKind.i64 e1.s.snd.2, V.int IntKind.u8 e1.s.rcv.c.1, V.int IntKind.u8 e1.s.rcv.c.2, V.int IntKind.u8 e1.s.rcv.c.3, V.int IntKind.u8 e1.s.rcv.c.4, V.int IntKind.u8 e1.s.rcv.c.5, V.int IntKind.u8 e1.s.rcv.c.6, V.int IntKind.u8 e1.s.rcv.c.7, V.int IntKind.u8 e1.s.rcv.c.8, V.int IntKind.i64 e1.s.rcv.2]]).length none, V.sl 2 0 0 9 4 none, V.int IntKind.i64 4, V.int IntKind.i64 (IntKind.i64.wrap (i + 1))], upd := [none, some none, none, none, none, none, none, none], new := [Body.rows [K.int IntKind.i64, K.int IntKind.i64, K.int IntKind.i64, K.int IntKind.i64, K.int IntKind.i64, K.int IntKind.u8, K.int IntKind.u8, K.int IntKind.u8, K.int IntKind.u8, K.int IntKind.u8, K.int IntKind.u8, K.int IntKind.u8, K.int IntKind.u8, K.int IntKind.i64, K.int IntKind.u8, K.int IntKind.u8, K.int IntKind.u8, K.int IntKind.u8, K.int IntKind.u8, K.int IntKind.u8, K.int IntKind.u8, K.int IntKind.u8, K.int IntKind.i64, K.int IntKind.u8, K.int IntKind.u8, K.int IntKind.u8, K.int IntKind.u8, K.int IntKind.u8, K.int IntKind.u8, K.int IntKind.u8, K.int IntKind.u8, K.int IntKind.i64] (List.take m (List.drop 0 qs) ++ [[V.int IntKind.i64 e1.s.1, V.int IntKind.i64 e1.s.2, V.int IntKind.i64 e1.s.q.1, V.int IntKind.i64 e1.s.q.2, V.int IntKind.i64 e1.s.q.3, V.int IntKind.u8 e1.s.g.1, V.int IntKind.u8 e1.s.g.2, V.int IntKind.u8 e1.s.g.3, V.int IntKind.u8 e1.s.g.4, V.int IntKind.u8 e1.s.g.5, V.int IntKind.u8 e1.s.g.6, V.int IntKind.u8 e1.s.g.7, V.int IntKind.u8 e1.s.g.8, V.int IntKind.i64 e1.s.5, V.int IntKind.u8 e1.s.snd.c.1, V.int IntKind.u8 e1.s.snd.c.2, V.int IntKind.u8 e1.s.snd.c.3, V.int IntKind.u8 e1.s.snd.c.4, V.int IntKind.u8 e1.s.snd.c.5, V.int IntKind.u8 e1.s.snd.c.6, V.int IntKind.u8 e1.s.snd.c.7, V.int IntKind.u8 e1.s.snd.c.8, V.int IntKind.i64 e1.s.snd.2, V.int IntKind.u8 e1.s.rcv.c.1, V.int IntKind.u8 e1.s.rcv.c.2, V.int IntKind.u8 e1.s.rcv.c.3, V.int IntKind.u8 e1.s.rcv.c.4, V.int IntKind.u8 e1.s.rcv.c.5, V.int IntKind.u8 e1.s.rcv.c.6, V.int IntKind.u8 e1.s.rcv.c.7, V.int IntKind.u8 e1.s.rcv.c.8, V.int IntKind.i64 e1.s.rcv.2]])] }) Tree.fail) Tree.fail) (Tree.leaf { e := Ex.nrm, vs := [V.ptr 0 0 0 0, V.int IntKind.i64 now, V.sl 1 0 0 32 m none, V.sl 2 0 0 9 4 none, V.int IntKind.i64 4, V.int IntKind.i64 (IntKind.i64.wrap (i + 1))], upd := [none, none, none, none, none, none, none, none], new := [] })) Tree.fail) Tree.fail) (Tree.ite ((V.toInt ((rs.getD (0 + i.toNat) []).getD 0 V.any)) == p2.c.1 && ((V.toInt ((rs.getD (0 + i.toNat) []).getD 1 V.any)) == p2.c.2 && ((V.toInt ((rs.getD (0 + i.toNat) []).getD 2 V.any)) == p2.c.3 && ((V.toInt ((rs.getD (0 + i.toNat) []).getD 3 V.any)) == p2.c.4 && ((V.toInt ((rs.getD (0 + i.toNat) []).getD 4 V.any)) == p2.c.5 && ((V.toInt ((rs.getD (0 + i.toNat) []).getD 5 V.any)) == p2.c.6 && ((V.toInt ((rs.getD (0 + i.toNat) []).getD 6 V.any)) == p2.c.7 && ((V.toInt ((rs.getD (0 + i.toNat) []).getD 7 V.any)) == p2.c.8 && true))))))) && ((V.toInt ((rs.getD (0 + i.toNat) []).getD 8 V.any)) == p2.2 && true)) (Tree.ite (true && decide (0 ≤ e2.m) && decide (e2.m ≤ 2)) (Tree.ite (decide (e2.m.toNat - 0 ≤ 2) && decide ((↑(e2.m.toNat - 0) : Int) = (↑(e2.m.toNat - 0) : Int))) (Tree.ite (cntE e2 (e2.m.toNat - 0) now win == 2) (Tree.ite (decide (0 + m ≤ qs.length) && true) (Tree.ite (decide ((List.take m (List.drop 0 qs) ++ [[V.int IntKind.i64 e2.s.1, V.int IntKind.i64 e2.s.2, V.int IntKind.i64 e2.s.q.1, V.int IntKind.i64 e2.s.q.2, V.int IntKind.i64 e2.s.q.3, V.int IntKind.u8 e2.s.g.1, V.int IntKind.u8 e2.s.g.2, V.int IntKind.u8 e2.s.g.3, V.int IntKind.u8 e2.s.g.4, V.int IntKind.u8 e2.s.g.5, V.int IntKind.u8 e2.s.g.6, V.int IntKind.u8 e2.s.g.7, V.int IntKind.u8 e2.s.g.8, V.int IntKind.i64 e2.s.5, V.int IntKind.u8 e2.s.snd.c.1, V.int IntKind.u8 e2.s.snd.c.2, V.int IntKind.u8 e2.s.snd.c.3, V.int IntKind.u8 e2.s.snd.c.4, V.int IntKind.u8 e2.s.snd.c.5, V.int IntKind.u8 e2.s.snd.c.6, V.int IntKind.u8 e2.s.snd.c.7, V.int IntKind.u8 e2.s.snd.c.8, V.int IntKind.i64 e2.s.snd.2, V.int IntKind.u8 e2.s.rcv.c.1, V.int IntKind.u8 e2.s.rcv.c.2, V.int IntKind.u8 e2.s.rcv.c.3, V.int IntKind.u8 e2.s.rcv.c.4, V.int IntKind.u8 e2.s.rcv.c.5, V.int IntKind.u8 e2.s.rcv.c.6, V.int IntKind.u8 e2.s.rcv.c.7, V.int IntKind.u8 e2.s.rcv.c.8, V.int IntKind.i64 e2.s.rcv.2]]).length * 88 ≤ 140737488355328)) (Tree.leaf { e := Ex.nrm, vs := [V.ptr 0 0 0 0, V.int IntKind.i64 now, V.sl 8 0 0 32 (List.take m (List.drop 0 qs) ++ [[V.int IntKind.i64 e2.s.1, V.int IntKind.i64 e2.s.2, V.int IntKind.i64 e2.s.q.1, V.int IntKind.i64 e2.s.q.2, V.int IntKind.i64 e2.s.q.3, V.int IntKind.u8 e2.s.g.1, V.int IntKind.u8 e2.s.g.2, V.int IntKind.u8 e2.s.g.3, V.int IntKind.u8 e2.s.g.4, V.int IntKind.u8 e2.s.g.5, V.int IntKind.u8 e2.s.g.6, V.int IntKind.u8 e2.s.g.7, V.int IntKind.u8 e2.s.g.8, V.int IntKind.i64 e2.s.5, V.int IntKind.u8 e2.s.snd.c.1, V.int IntKind.u8 e2.s.snd.c.2, V.int IntKind.u8 e2.s.snd.c.3, V.int IntKind.u8 e2.s.snd.c.4, V.int IntKind.u8 e2.s.snd.c.5, V.int IntKind.u8 e2.s.snd.c.6, V.int IntKind.u8 e2.s.snd.c.7, V.int IntKind.u8 e2.s.snd.c.8, V.int IntKind.i64 e2.s.snd.2, V.int IntKind.u8 e2.s.rcv.c.1, V.int IntKind.u8 e2.s.rcv.c.2, V.int IntKind.u8 e2.s.rcv.c.3, V.int IntKind.u8 e2.s.rcv.c.4, V.int IntKind.u8 e2.s.rcv.c.5, V.int IntKind.u8 e2.s.rcv.c.6, V.int IntKind.u8 e2.s.rcv.c.7, V.int IntKind.u8 e2.s.rcv.c.8, V.int IntKind.i64 e2.s.rcv.2]]).length none, V.sl 2 0 0 9 4 none, V.int IntKind.i64 4, V.int IntKind.i64 (IntKind.i64.wrap (i + 1))], upd := [none, some none, none, none, none, none, none, none], new := [Body.rows [K.int IntKind.i64, K.int IntKind.i64, K.int IntKind.i64, K.int IntKind.i64, K.int IntKind.i64, K.int IntKind.u8, K.int IntKind.u8, K.int IntKind.u8, K.int IntKind.u8, K.int IntKind.u8, K.int IntKind.u8, K.int IntKind.u8, K.int IntKind.u8, K.int IntKind.i64, K.int IntKind.u8, K.int IntKind.u8, K.int IntKind.u8, K.int IntKind.u8, K.int IntKind.u8, K.int IntKind.u8, K.int IntKind.u8, K.int IntKind.u8, K.int IntKind.i64, K.int IntKind.u8, K.int IntKind.u8, K.int IntKind.u8, K.int IntKind.u8, K.int IntKind.u8, K.int IntKind.u8, K.int IntKind.u8, K.int IntKind.u8, K.int IntKind.i64] (List.take m (List.drop 0 qs) ++ [[V.int IntKind.i64 e2.s.1, V.int IntKind.i64 e2.s.2, V.int IntKind.i64 e2.s.q.1, V.int IntKind.i64 e2.s.q.2, V.int IntKind.i64 e2.s.q.3, V.int IntKind.u8 e2.s.g.1, V.int IntKind.u8 e2.s.g.2, V.int IntKind.u8 e2.s.g.3, V.int IntKind.u8 e2.s.g.4, V.int IntKind.u8 e2.s.g.5, V.int IntKind.u8 e2.s.g.6, V.int IntKind.u8 e2.s.g.7, V.int IntKind.u8 e2.s.g.8, V.int IntKind.i64 e2.s.5, V.int IntKind.u8 e2.s.snd.c.1, V.int IntKind.u8 e2.s.snd.c.2, V.int IntKind.u8 e2.s.snd.c.3, V.int IntKind.u8 e2.s.snd.c.4, V.int IntKind.u8 e2.s.snd.c.5, V.int IntKind.u8 e2.s.snd.c.6, V.int IntKind.u8 e2.s.snd.c.7, V.int IntKind.u8 e2.s.snd.c.8, V.int IntKind.i64 e2.s.snd.2, V.int IntKind.u8 e2.s.rcv.c.1, V.int IntKind.u8 e2.s.rcv.c.2, V.int IntKind.u8 e2.s.rcv.c.3, V.int IntKind.u8 e2.s.rcv.c.4, V.int IntKind.u8 e2.s.rcv.c.5, V.int IntKind.u8 e2.s.rcv.c.6, V.int IntKind.u8 e2.s.rcv.c.7, V.int IntKind.u8 e2.s.rcv.c.8, V.int IntKind.i64 e2.s.rcv.2]])] }) Tree.fail) Tree.fail) (Tree.leaf { e := Ex.nrm, vs := [V.ptr 0 0 0 0, V.int IntKind.i64 now, V.sl 1 0 0 32 m none, V.sl 2 0 0 9 4 none, V.int IntKind.i64 4, V.int IntKind.i64 (IntKind.i64.wrap (i + 1))], upd := [none, none, none, none, none, none, none, none], new := [] })) Tree.fail) Tree.fail) (Tree.ite ((V.toInt ((rs.getD (0 + i.toNat) []).getD 0 V.any)) == p3.c.1 && ((V.toInt ((rs.getD (0 + i.toNat) []).getD 1 V.any)) == p3.c.2 && ((V.toInt ((rs.getD (0 + i.toNat) []).getD 2 V.any)) == p3.c.3 && ((V.toInt ((rs.getD (0 + i.toNat) []).getD 3 V.any)) == p3.c.4 && ((V.toInt ((rs.getD (0 + i.toNat) []).getD 4 V.any)) == p3.c.5 && ((V.toInt ((rs.getD (0 + i.toNat) []).getD 5 V.any)) == p3.c.6 && ((V.toInt ((rs.getD (0 + i.toNat) []).getD 6 V.any)) == p3.c.7 && ((V.toInt ((rs.getD (0 + i.toNat) []).getD 7 V.any)) == p3.c.8 && true))))))) && ((V.toInt ((rs.getD (0 + i.toNat) []).getD 8 V.any)) == p3.2 && true)) (Tree.ite (true && decide (0 ≤ e3.m) && decide (e3.m ≤ 2)) (Tree.ite (decide (e3.m.toNat - 0 ≤ 2) && decide ((↑(e3.m.toNat - 0) : Int) = (↑(e3.m.toNat - 0) : Int))) (Tree.ite (cntE e3 (e3.m.toNat - 0) now win == 2) (Tree.ite (decide (0 + m ≤ qs.length) && true) (Tree.ite (decide ((List.take m (List.drop 0 qs) ++ [[V.int IntKind.i64 e3.s.1, V.int IntKind.i64 e3.s.2, V.int IntKind.i64 e3.s.q.1, V.int IntKind.i64 e3.s.q.2, V.int IntKind.i64 e3.s.q.3, V.int IntKind.u8 e3.s.g.1, V.int IntKind.u8 e3.s.g.2, V.int IntKind.u8 e3.s.g.3, V.int IntKind.u8 e3.s.g.4, V.int IntKind.u8 e3.s.g.5, V.int IntKind.u8 e3.s.g.6, V.int IntKind.u8 e3.s.g.7, V.int IntKind.u8 e3.s.g.8, V.int IntKind.i64 e3.s.5, V.int IntKind.u8 e3.s.snd.c.1, V.int IntKind.u8 e3.s.snd.c.2, V.int IntKind.u8 e3.s.snd.c.3, V.int IntKind.u8 e3.s.snd.c.4, V.int IntKind.u8 e3.s.snd.c.5, V.int IntKind.u8 e3.s.snd.c.6, V.int IntKind.u8 e3.s.snd.c.7, V.int IntKind.u8 e3.s.snd.c.8, V.int IntKind.i64 e3.s.snd.2, V.int IntKind.u8 e3.s.rcv.c.1, V.int IntKind.u8 e3.s.rcv.c.2, V.int IntKind.u8 e3.s.rcv.c.3, V.int IntKind.u8 e3.s.rcv.c.4, V.int IntKind.u8 e3.s.rcv.c.5, V.int IntKind.u8 e3.s.rcv.c.6, V.int IntKind.u8 e3.s.rcv.c.7, V.int IntKind.u8 e3.s.rcv.c.8, V.int IntKind.i64 e3.s.rcv.2]]).length * 88 ≤ 140737488355328)) (Tree.leaf { e := Ex.nrm, vs := [V.ptr 0 0 0 0, V.int IntKind.i64 now, V.sl 8 0 0 32 (List.take m (List.drop 0 qs) ++ [[V.int IntKind.i64 e3.s.1, V.int IntKind.i64 e3.s.2, V.int IntKind.i64 e3.s.q.1, V.int IntKind.i64 e3.s.q.2, V.int IntKind.i64 e3.s.q.3, V.int IntKind.u8 e3.s.g.1, V.int IntKind.u8 e3.s.g.2, V.int IntKind.u8 e3.s.g.3, V.int IntKind.u8 e3.s.g.4, V.int IntKind.u8 e3.s.g.5, V.int IntKind.u8 e3.s.g.6, V.int IntKind.u8 e3.s.g.7, V.int IntKind.u8 e3.s.g.8, V.int IntKind.i64 e3.s.5, V.int IntKind.u8 e3.s.snd.c.1, V.int IntKind.u8 e3.s.snd.c.2, V.int IntKind.u8 e3.s.snd.c.3, V.int IntKind.u8 e3.s.snd.c.4, V.int IntKind.u8 e3.s.snd.c.5, V.int IntKind.u8 e3.s.snd.c.6, V.int IntKind.u8 e3.s.snd.c.7, V.int IntKind.u8 e3.s.snd.c.8, V.int IntKind.i64 e3.s.snd.2, V.int IntKind.u8 e3.s.rcv.c.1, V.int IntKind.u8 e3.s.rcv.c.2, V.int IntKind.u8 e3.s.rcv.c.3, V.int IntKind.u8 e3.s.rcv.c.4, V.int IntKind.u8 e3.s.rcv.c.5, V.int IntKind.u8 e3.s.rcv.c.6, V.int IntKind.u8 e3.s.rcv.c.7, V.int IntKind.u8 e3.s.rcv.c.8, V.int IntKind.i64 e3.s.rcv.2]]).length none, V.sl 2 0 0 9 4 none, V.int IntKind.i64 4, V.int IntKind.i64 (IntKind.i64.wrap (i + 1))], upd := [none, some none, none, none, none, none, none, none], new := [Body.rows [K.int IntKind.i64, K.int IntKind.i64, K.int IntKind.i64, K.int IntKind.i64, K.int IntKind.i64, K.int IntKind.u8, K.int IntKind.u8, K.int IntKind.u8, K.int IntKind.u8, K.int IntKind.u8, K.int IntKind.u8, K.int IntKind.u8, K.int IntKind.u8, K.int IntKind.i64, K.int IntKind.u8, K.int IntKind.u8, K.int IntKind.u8, K.int IntKind.u8, K.int IntKind.u8, K.int IntKind.u8, K.int IntKind.u8, K.int IntKind.u8, K.int IntKind.i64, K.int IntKind.u8, K.int IntKind.u8, K.int IntKind.u8, K.int IntKind.u8, K.int IntKind.u8, K.int IntKind.u8, K.int IntKind.u8, K.int IntKind.u8, K.int IntKind.i64] (List.take m (List.drop 0 qs) ++ [[V.int IntKind.i64 e3.s.1, V.int IntKind.i64 e3.s.2, V.int IntKind.i64 e3.s.q.1, V.int IntKind.i64 e3.s.q.2, V.int IntKind.i64 e3.s.q.3, V.int IntKind.u8 e3.s.g.1, V.int IntKind.u8 e3.s.g.2, V.int IntKind.u8 e3.s.g.3, V.int IntKind.u8 e3.s.g.4, V.int IntKind.u8 e3.s.g.5, V.int IntKind.u8 e3.s.g.6, V.int IntKind.u8 e3.s.g.7, V.int IntKind.u8 e3.s.g.8, V.int IntKind.i64 e3.s.5, V.int IntKind.u8 e3.s.snd.c.1, V.int IntKind.u8 e3.s.snd.c.2, V.int IntKind.u8 e3.s.snd.c.3, V.int IntKind.u8 e3.s.snd.c.4, V.int IntKind.u8 e3.s.snd.c.5, V.int IntKind.u8 e3.s.snd.c.6, V.int IntKind.u8 e3.s.snd.c.7, V.int IntKind.u8 e3.s.snd.c.8, V.int IntKind.i64 e3.s.snd.2, V.int IntKind.u8 e3.s.rcv.c.1, V.int IntKind.u8 e3.s.rcv.c.2, V.int IntKind.u8 e3.s.rcv.c.3, V.int IntKind.u8 e3.s.rcv.c.4, V.int IntKind.u8 e3.s.rcv.c.5, V.int IntKind.u8 e3.s.rcv.c.6, V.int IntKind.u8 e3.s.rcv.c.7, V.int IntKind.u8 e3.s.rcv.c.8, V.int IntKind.i64 e3.s.rcv.2]])] }) Tree.fail) Tree.fail) (Tree.leaf { e := Ex.nrm, vs := [V.ptr 0 0 0 0, V.int IntKind.i64 now, V.sl 1 0 0 32 m none, V.sl 2 0 0 9 4 none, V.int IntKind.i64 4, V.int IntKind.i64 (IntKind.i64.wrap (i + 1))], upd := [none, none, none, none, none, none, none, none], new := [] })) Tree.fail) Tree.fail) Tree.fail)))) Tree.fail) Tree.fail) (Tree.leaf { e := Ex.exit 0, vs := [V.sl 1 0 0 32 m none], upd := [none, none, none, none, none, none, none, none], new := [] })) := by
  kernel_rfl
theorem qs_4 (own : Ck) (win now : Int) (k : Nat) (l : List Prt) (q : List Ste) (x : Prt) (p0 p1 p2 p3 : Prt) (e0 e1 e2 e3 : Ent) (hx : l[k]? = some x) (hk : k < 4) (hq : q.length < 1000) (hi : inE x [(p0, e0), (p1, e1), (p2, e2), (p3, e3)] = true) (hw : wfE [(p0, e0), (p1, e1), (p2, e2), (p3, e3)] = true) :
    (qRd (qV now q.length 4 k) (qBl (q.map Ste.vs) (l.map Prt.vs) own win [(p0, e0), (p1, e1), (p2, e2), (p3, e3)])).den = some (match qC now win x [(p0, e0), (p1, e1), (p2, e2), (p3, e3)] with
      | true => ⟨.nrm, qV now q.length 4 (k + 1 : Nat) |>.set 2 (.sl 8 0 0 32 (q ++ [(lastE x [(p0, e0), (p1, e1), (p2, e2), (p3, e3)]).1]).length none), none :: some none :: List.replicate 6 none, [.rows stK ((q ++ [(lastE x [(p0, e0), (p1, e1), (p2, e2), (p3, e3)]).1]).map Ste.vs)]⟩
      | false => ⟨.nrm, qV now q.length 4 (k + 1 : Nat), List.replicate 8 none, []⟩) := by
  have st := qr_4 own win now k (l.map Prt.vs) (q.map Ste.vs) q.length p0 p1 p2 p3 e0 e1 e2 e3
  have ht : List.take q.length (List.drop 0 (q.map Ste.vs)) = q.map Ste.vs := by rw [List.drop_zero]; exact List.take_of_length_le (by simp)
  have hgi : (l.map Prt.vs).getD k [] = x.vs := by
    rw [List.getD_eq_getElem?_getD, List.getElem?_map, hx]; rfl
  have hkl : k < l.length := (List.getElem?_eq_some_iff.1 hx).1
  obtain ⟨⟨x0, x1, x2, x3⟩, x4, x5, x6, x7, x8⟩ := vsp x
  have w1 : IntKind.i64.wrap (((k : Nat) : Int) + 1) = ((k + 1 : Nat) : Int) := by rw [wrap64_id (by omega) (by omega)]; omega
  simp only [wfE, List.all_cons, List.all_nil, Bool.and_eq_true, decide_eq_true_eq, and_true] at hw
  simp only [hgi, x0, x1, x2, x3, x4, x5, x6, x7, x8, vsx, vsxS, eqf, w1, Int.toNat_natCast, Nat.zero_add, Nat.sub_zero, List.length_map, ht, appS] at st
  rw [decide_eq_true (show ((k : Nat) : Int) < (4 : Int) by omega), decide_eq_true (show (0 : Int) ≤ ((k : Nat) : Int) by omega), decide_eq_true hkl, decide_eq_true (show q.length ≤ q.length from Nat.le_refl _)] at st
  rw [decide_eq_true (show 0 ≤ e0.m from hw.1.1), decide_eq_true (show e0.m ≤ 2 from hw.1.2), decide_eq_true (show e0.m.toNat ≤ 2 by have := hw.1.2; omega), decide_eq_true (show (q ++ [e0.s]).length * 88 ≤ 140737488355328 by rw [List.length_append, List.length_singleton]; omega)] at st
  rw [decide_eq_true (show 0 ≤ e1.m from hw.2.1.1), decide_eq_true (show e1.m ≤ 2 from hw.2.1.2), decide_eq_true (show e1.m.toNat ≤ 2 by have := hw.2.1.2; omega), decide_eq_true (show (q ++ [e1.s]).length * 88 ≤ 140737488355328 by rw [List.length_append, List.length_singleton]; omega)] at st
  rw [decide_eq_true (show 0 ≤ e2.m from hw.2.2.1.1), decide_eq_true (show e2.m ≤ 2 from hw.2.2.1.2), decide_eq_true (show e2.m.toNat ≤ 2 by have := hw.2.2.1.2; omega), decide_eq_true (show (q ++ [e2.s]).length * 88 ≤ 140737488355328 by rw [List.length_append, List.length_singleton]; omega)] at st
  rw [decide_eq_true (show 0 ≤ e3.m from hw.2.2.2.1), decide_eq_true (show e3.m ≤ 2 from hw.2.2.2.2), decide_eq_true (show e3.m.toNat ≤ 2 by have := hw.2.2.2.2; omega), decide_eq_true (show (q ++ [e3.s]).length * 88 ≤ 140737488355328 by rw [List.length_append, List.length_singleton]; omega)] at st
  refine st.trans ?_
  clear st
  revert hi
  simp only [inE, qC, lastE]
  cases x.eqB p0
  · cases x.eqB p1
    · cases x.eqB p2
      · cases x.eqB p3
        · exact fun h => Bool.noConfusion (show false = true from h)
        · cases cntE e3 e3.m.toNat now win == 2
          · exact fun _ => by kernel_rfl
          · exact fun _ => by kernel_rfl
      · cases cntE e2 e2.m.toNat now win == 2
        · exact fun _ => by kernel_rfl
        · exact fun _ => by kernel_rfl
    · cases cntE e1 e1.m.toNat now win == 2
      · exact fun _ => by kernel_rfl
      · exact fun _ => by kernel_rfl
  · cases cntE e0 e0.m.toNat now win == 2
    · exact fun _ => by kernel_rfl
    · exact fun _ => by kernel_rfl
theorem qa_4 (own : Ck) (win now : Int) (l : List Prt) (p0 p1 p2 p3 : Prt) (e0 e1 e2 e3 : Ent) (hl : l.length = 4) (hi : ∀ x ∈ l, inE x [(p0, e0), (p1, e1), (p2, e2), (p3, e3)] = true) (hw : wfE [(p0, e0), (p1, e1), (p2, e2), (p3, e3)] = true) :
    ∀ (rest : List Prt) (k : Nat) (q : List Ste), l.drop k = rest → k ≤ 4 → q.length ≤ k →
    ∃ f, (qLN f (qV now q.length 4 k) (qBl (q.map Ste.vs) (l.map Prt.vs) own win [(p0, e0), (p1, e1), (p2, e2), (p3, e3)])).den = some (resQ 4 q.length (q ++ quF now win [(p0, e0), (p1, e1), (p2, e2), (p3, e3)] rest) (!(quF now win [(p0, e0), (p1, e1), (p2, e2), (p3, e3)] rest).isEmpty)) := by
  intro rest
  induction rest with
  | nil =>
    intro k q hd hk hq
    have hk5 : k = 4 := by
      have := congrArg List.length hd
      rw [List.length_drop, hl, List.length_nil] at this
      omega
    subst hk5
    refine ⟨1, ?_⟩
    have hx := qr_4 own win now ((4 : Nat) : Int) (l.map Prt.vs) (q.map Ste.vs) q.length p0 p1 p2 p3 e0 e1 e2 e3
    rw [decide_eq_false (show ¬ ((4 : Nat) : Int) < (4 : Int) by decide)] at hx
    exact loopN_end hx (by show Ex.exit 0 ≠ Ex.nrm; decide)
  | cons x rest ih =>
    intro k q hd hk hq
    obtain ⟨hx, hd', hkl⟩ := drop_cons hd
    have st := qs_4 own win now k l q x p0 p1 p2 p3 e0 e1 e2 e3 hx (by omega) (by omega) (hi x (List.mem_of_getElem? hx)) hw
    cases hc : qC now win x [(p0, e0), (p1, e1), (p2, e2), (p3, e3)] with
    | false =>
      rw [hc] at st
      obtain ⟨f, hf⟩ := ih (k + 1) q hd' (by omega) (by omega)
      refine ⟨f + 1, ?_⟩
      have hF : quF now win [(p0, e0), (p1, e1), (p2, e2), (p3, e3)] (x :: rest) = quF now win [(p0, e0), (p1, e1), (p2, e2), (p3, e3)] rest := by
        unfold quF
        rw [List.filter_cons_of_neg (by rw [hc]; simp)]
      rw [hF]
      refine loopN_step st rfl (vals' := qV now q.length 4 (k + 1 : Nat)) (bs' := qBl (q.map Ste.vs) (l.map Prt.vs) own win [(p0, e0), (p1, e1), (p2, e2), (p3, e3)]) (by kernel_rfl) (by kernel_rfl) (by kernel_rfl) hf ?_
      generalize quF now win [(p0, e0), (p1, e1), (p2, e2), (p3, e3)] rest = F
      cases F with
      | nil => (show (seqAfter _ _ _).den = some _; kernel_rfl)
      | cons a b => (show (seqAfter _ _ _).den = some _; kernel_rfl)
    | true =>
      rw [hc] at st
      obtain ⟨f, hf⟩ := ih (k + 1) (q ++ [(lastE x [(p0, e0), (p1, e1), (p2, e2), (p3, e3)]).1]) hd' (by omega) (by rw [List.length_append, List.length_singleton]; omega)
      refine ⟨f + 1, ?_⟩
      have hF : quF now win [(p0, e0), (p1, e1), (p2, e2), (p3, e3)] (x :: rest) = (lastE x [(p0, e0), (p1, e1), (p2, e2), (p3, e3)]).1 :: quF now win [(p0, e0), (p1, e1), (p2, e2), (p3, e3)] rest := by
        unfold quF
        rw [List.filter_cons_of_pos (by rw [hc]), List.map_cons]
      rw [hF]
      generalize (lastE x [(p0, e0), (p1, e1), (p2, e2), (p3, e3)]).1 = y at st hf ⊢
      refine loopN_step st rfl (vals' := qV now (q ++ [y]).length 4 (k + 1 : Nat)) (bs' := qBl ((q ++ [y]).map Ste.vs) (l.map Prt.vs) own win [(p0, e0), (p1, e1), (p2, e2), (p3, e3)]) (by kernel_rfl) (by kernel_rfl) (by kernel_rfl) hf ?_
      generalize quF now win [(p0, e0), (p1, e1), (p2, e2), (p3, e3)] rest = F
      rw [show q ++ [y] ++ F = q ++ y :: F by simp]
      cases F with
      | nil => (show (seqAfter _ _ _).den = some _; kernel_rfl)
      | cons a b => (show (seqAfter _ _ _).den = some _; kernel_rfl)
theorem qr_5 (own : Ck) (win now i : Int) (rs qs : List (List V)) (m : Nat) (p0 p1 p2 p3 p4 : Prt) (e0 e1 e2 e3 e4 : Ent) : (qRd (qV now m 5 i) (qBl qs rs own win [(p0, e0), (p1, e1), (p2, e2), (p3, e3), (p4, e4)])).den = Tree.den (Tree.ite (decide (i < 5)) (Tree.ite (decide (0 ≤ i) && decide (i < 5)) (Tree.ite (decide (0 + i.toNat < rs.length)) (Tree.ite ((V.toInt ((rs.getD (0 + i.toNat) []).getD 0 V.any)) == p0.c.1 && ((V.toInt ((rs.getD (0 + i.toNat) []).getD 1 V.any)) == p0.c.2 && ((V.toInt ((rs.getD (0 + i.toNat) []).getD 2 V.any)) == p0.c.3 && ((V.toInt ((rs.getD (0 + i.toNat) []).getD 3 V.any)) == p0.c.4 && ((V.toInt ((rs.getD (0 + i.toNat) []).getD 4 V.any)) == p0.c.5 && ((V.toInt ((rs.getD (0 + i.toNat) []).getD 5 V.any)) == p0.c.6 && ((V.toInt ((rs.getD (0 + i.toNat) []).getD 6 V.any)) == p0.c.7 && ((V.toInt ((rs.getD (0 + i.toNat) []).getD 7 V.any)) == p0.c.8 && true))))))) && ((V.toInt ((rs.getD (0 + i.toNat) []).getD 8 V.any)) == p0.2 && true)) (Tree.ite (true && decide (0 ≤ e0.m) && decide (e0.m ≤ 2)) (Tree.ite (decide (e0.m.toNat - 0 ≤ 2) && decide ((↑(e0.m.toNat - 0) : Int) = (↑(e0.m.toNat - 0) : Int))) (Tree.ite (cntE e0 (e0.m.toNat - 0) now win == 2) (Tree.ite (decide (0 + m ≤ qs.length) && true) (Tree.ite (decide ((List.take m (List.drop 0 qs) ++ [[V.int IntKind.i64 e0.s.1, V.int IntKind.i64 e0.s.2, V.int IntKind.i64 e0.s.q.1, V.int IntKind.i64 e0.s.q.2, V.int IntKind.i64 e0.s.q.3, V.int IntKind.u8 e0.s.g.1, V.int IntKind.u8 e0.s.g.2, V.int IntKind.u8 e0.s.g.3, V.int IntKind.u8 e0.s.g.4, V.int IntKind.u8 e0.s.g.5, V.int IntKind.u8 e0.s.g.6, V.int IntKind.u8 e0.s.g.7, V.int IntKind.u8 e0.s.g.8, V.int IntKind.i64 e0.s.5, V.int IntKind.u8 e0.s.snd.c.1, V.int IntKind.u8 e0.s.snd.c.2, V.int IntKind.u8 e0.s.snd.c.3, V.int IntKind.u8 e0.s.snd.c.4, V.int IntKind.u8 e0.s.snd.c.5, V.int IntKind.u8 e0.s.snd.c.6, V.int IntKind.u8 e0.s.snd.c.7, V.int IntKind.u8 e0.s.snd.c.8, V.int IntKind.i64 e0.s.snd.2, V.int IntKind.u8 e0.s.rcv.c.1, V.int IntKind.u8 e0.s.rcv.c.2, V.int IntKind.u8 e0.s.rcv.c.3, V.int IntKind.u8 e0.s.rcv.c.4, V.int IntKind.u8 e0.s.rcv.c.5, V.int IntKind.u8 e0.s.rcv.c.6, V.int IntKind.u8 e0.s.rcv.c.7, V.int IntKind.u8 e0.s.rcv.c.8, V.int IntKind.i64 e0.s.rcv.2]]).length * 88 ≤ 140737488355328)) (Tree.leaf { e := Ex.nrm, vs := [V.ptr 0 0 0 0, V.int IntKind.i64 now, V.sl 9 0 0 32 (List.take m (List.drop 0 qs) ++ [[V.int IntKind.i64 e0.s.1, V.int IntKind.i64 e0.s.2, V.int IntKind.i64 e0.s.q.1, V.int IntKind.i64 e0.s.q.2, V.int IntKind.i64 e0.s.q.3, V.int IntKind.u8 e0.s.g.1, V.int IntKind.u8 e0.s.g.2, V.int IntKind.u8 e0.s.g.3, V.int IntKind.u8 e0.s.g.4, V.int IntKind.u8 e0.s.g.5, V.int IntKind.u8 e0.s.g.6, V.int IntKind.u8 e0.s.g.7, V.int IntKind.u8 e0.s.g.8, V.int IntKind.i64 e0.s.5, V.int IntKind.u8 e0.s.snd.c.1, V.int IntKind.u8 e0.s.snd.c.2, V.int IntKind.u8 e0.s.snd.c.3, V.int IntKind.u8 e0.s.snd.c.4, V.int IntKind.u8 e0.s.snd.c.5, V.int IntKind.u8 e0.s.snd.c.6, V.int IntKind.u8 e0.s.snd.c.7, V.int IntKind.u8 e0.s.snd.c.8, V.int IntKind.i64 e0.s.snd.2, V.int IntKind.u8 e0.s.rcv.c.1, V.int IntKind.u8 e0.s.rcv.c.2, V.int IntKind.u8 e0.s.rcv.c.3, V.int IntKind.u8 e0.s.rcv.c.4, V.int IntKind.u8 e0.s.rcv.c.5, V.int IntKind.u8 e0.s.rcv.c.6, V.int IntKind.u8 e0.s.rcv.c.7, V.int IntKind.u8 e0.s.rcv.c.8, V.int IntKind.i64 e0.s.rcv.2]]).length none, V.sl 2 0 0 9 5 none, V.int IntKind.i64 5, V.int IntKind.i64 (IntKind.i64.wrap (i + 1))], upd := [none, some none, none, none, none, none, none, none, none], new := [Body.rows [K.int IntKind.i64, K.int IntKind.i64, K.int IntKind.i64, K.int IntKind.i64, K.int IntKind.i64, K.int IntKind.u8, K.int IntKind.u8, K.int IntKind.u8, K.int IntKind.u8, K.int IntKind.u8, K.int IntKind.u8, K.int IntKind.u8, K.int IntKind.u8, K.int IntKind.i64, K.int IntKind.u8, K.int IntKind.u8, K.int IntKind.u8, K.int IntKind.u8, K.int IntKind.u8, K.int IntKind.u8, K.int IntKind.u8, K.int IntKind.u8, K.int IntKind.i64, K.int IntKind.u8, K.int IntKind.u8, K.int IntKind.u8, K.int IntKind.u8, K.int IntKind.u8, K.int IntKind.u8, K.int IntKind.u8, K.int IntKind.u8, K.int IntKind.i64] (List.take m (List.drop 0 qs) ++ [[V.int IntKind.i64 e0.s.1, V.int IntKind.i64 e0.s.2, V.int IntKind.i64 e0.s.q.1, V.int IntKind.i64 e0.s.q.2, V.int IntKind.i64 e0.s.q.3, V.int IntKind.u8 e0.s.g.1, V.int IntKind.u8 e0.s.g.2, V.int IntKind.u8 e0.s.g.3, V.int IntKind.u8 e0.s.g.4, V.int IntKind.u8 e0.s.g.5, V.int IntKind.u8 e0.s.g.6, V.int IntKind.u8 e0.s.g.7, V.int IntKind.u8 e0.s.g.8, V.int IntKind.i64 e0.s.5, V.int IntKind.u8 e0.s.snd.c.1, V.int IntKind.u8 e0.s.snd.c.2, V.int IntKind.u8 e0.s.snd.c.3, V.int IntKind.u8 e0.s.snd.c.4, V.int IntKind.u8 e0.s.snd.c.5, V.int IntKind.u8 e0.s.snd.c.6, V.int IntKind.u8 e0.s.snd.c.7, V.int IntKind.u8 e0.s.snd.c.8, V.int IntKind.i64 e0.s.snd.2, V.int IntKind.u8 e0.s.rcv.c.1, V.int IntKind.u8 e0.s.rcv.c.2, V.int IntKind.u8 e0.s.rcv.c.3, V.int IntKind.u8 e0.s.rcv.c.4, V.int IntKind.u8 e0.s.rcv.c.5, V.int IntKind.u8 e0.s.rcv.c.6, V.int IntKind.u8 e0.s.rcv.c.7, V.int IntKind.u8 e0.s.rcv.c.8, V.int IntKind.i64 e0.s.rcv.2]])] }) Tree.fail) Tree.fail) (Tree.leaf { e := Ex.nrm, vs := [V.ptr 0 0 0 0, V.int IntKind.i64 now, V.sl 1 0 0 32 m none, V.sl 2 0 0 9 5 none, V.int IntKind.i64 5, V.int IntKind.i64 (IntKind.i64.wrap (i + 1))], upd := [none, none, none, none, none, none, none, none, none], new := [] })) Tree.fail) Tree.fail) (Tree.ite ((V.toInt ((rs.getD (0 + i.toNat) []).getD 0 V.any)) == p1.c.1 && ((V.toInt ((rs.getD (0 + i.toNat) []).getD 1 V.any)) == p1.c.2 && ((V.toInt ((rs.getD (0 + i.toNat) []).getD 2 V.any)) == p1.c.3 && ((V.toInt ((rs.getD (0 + i.toNat) []).getD 3 V.any)) == p1.c.4 && ((V.toInt ((rs.getD (0 + i.toNat) []).getD 4 V.any)) == p1.c.5 && ((V.toInt ((rs.getD (0 + i.toNat) []).getD 5 V.any)) == p1.c.6 && ((V.toInt ((rs.getD (0 + i.toNat) []).getD 6 V.any)) == p1.c.7 && ((V.toInt ((rs.getD (0 + i.toNat) []).getD 7 V.any)) == p1.c.8 && true))))))) && ((V.toInt ((rs.getD (0 + i.toNat) []).getD 8 V.any)) == p1.2 && true)) (Tree.ite (true && decide (0 ≤ e1.m) && decide (e1.m ≤ 2)) (Tree.ite (decide (e1.m.toNat - 0 ≤ 2) && decide ((↑(e1.m.toNat - 0) : Int) = (↑(e1.m.toNat - 0) : Int))) (Tree.ite (cntE e1 (e1.m.toNat - 0) now win == 2) (Tree.ite (decide (0 + m ≤ qs.length) && true) (Tree.ite (decide ((List.take m (List.drop 0 qs) ++ [[V.int IntKind.i64 e1.s.1, V.int IntKind.i64 e1.s.2, V.int IntKind.i64 e1.s.q.1, V.int IntKind.i64 e1.s.q.2, V.int IntKind.i64 e1.s.q.3, V.int IntKind.u8 e1.s.g.1, V.int IntKind.u8 e1.s.g.2, V.int IntKind.u8 e1.s.g.3, V.int IntKind.u8 e1.s.g.4, V.int IntKind.u8 e1.s.g.5, V.int IntKind.u8 e1.s.g.6, V.int IntKind.u8 e1.s.g.7, V.int IntKind.u8 e1.s.g.8, V.int IntKind.i64 e1.s.5, V.int IntKind.u8 e1.s.snd.c.1, V.int IntKind.u8 e1.s.snd.c.2, V.int IntKind.u8 e1.s.snd.c.3, V.int IntKind.u8 e1.s.snd.c.4, V.int IntKind.u8 e1.s.snd.c.5, V.int IntKind.u8 e1.s.snd.c.6, V.int IntKind.u8 e1.s.snd.c.7, V.int IntKind.u8 e1.s.snd.c.8, V.int IntKind.i64 e1.s.snd.2, V.int IntKind.u8 e1.s.rcv.c.1, V.int IntKind.u8 e1.s.rcv.c.2, V.int IntKind.u8 e1.s.rcv.c.3, V.int IntKind.u8 e1.s.rcv.c.4, V.int IntKind.u8 e1.s.rcv.c.5, V.int IntKind.u8 e1.s.rcv.c.6, V.int IntKind.u8 e1.s.rcv.c.7, V.int IntKind.u8 e1.s.rcv.c.8, V.int IntKind.i64 e1.s.rcv.2]]).length * 88 ≤ 140737488355328)) (Tree.leaf { e := Ex.nrm, vs := [V.ptr 0 0 0 0, V.int IntKind.i64 now, V.sl 9 0 0 32 (List.take m (List.drop 0 qs) ++ [[V.int IntKind.i64 e1.s.1, V.int IntKind.i64 e1.s.2, V.int IntKind.i64 e1.s.q.1, V.int IntKind.i64 e1.s.q.2, V.int IntKind.i64 e1.s.q.3, V.int IntKind.u8 e1.s.g.1, V.int IntKind.u8 e1.s.g.2, V.int IntKind.u8 e1.s.g.3, V.int IntKind.u8 e1.s.g.4, V.int IntKind.u8 e1.s.g.5, V.int IntKind.u8 e1.s.g.6, V.int IntKind.u8 e1.s.g.7, V.int IntKind.u8 e1.s.g.8, V.int IntKind.i64 e1.s.5, V.int IntKind.u8 e1.s.snd.c.1, V.int IntKind.u8 e1.s.snd.c.2, V.int IntKind.u8 e1.s.snd.c.3, V.int IntKind.u8 e1.s.snd.c.4, V.int IntKind.u8 e1.s.snd.c.5, V.int IntKind.u8 e1.s.snd.c.6, V.int IntKind.u8 e1.s.snd.c.7, V.int IntKind.u8 e1.s.snd.c.8, V.int IntKind.i64 e1.s.snd.2, V.int IntKind.u8 e1.s.rcv.c.1, V.int IntKind.u8 e1.s.rcv.c.2, V.int IntKind.u8 e1.s.rcv.c.3, V.int IntKind.u8 e1.s.rcv.c.4, V.int IntKind.u8 e1.s.rcv.c.5, V.int IntKind.u8 e1.s.rcv.c.6, V.int IntKind.u8 e1.s.rcv.c.7, V.int IntKind.u8 e1.s.rcv.c.8, V.int IntKind.i64 e1.s.rcv.2]]).length none, V.sl 2 0 0 9 5 none, V.int IntKind.i64 5, V.int IntKind.i64 (IntKind.i64.wrap (i + 1))], upd := [none, some none, none, none, none, none, none, none, none], new := [Body.rows [K.int IntKind.i64, K.int IntKind.i64, K.int IntKind.i64, K.int IntKind.i64, K.int IntKind.i64, K.int IntKind.u8, K.int IntKind.u8, K.int IntKind.u8, K.int IntKind.u8, K.int IntKind.u8, K.int IntKind.u8, K.int IntKind.u8, K.int IntKind.u8, K.int IntKind.i64, K.int IntKind.u8, K.int IntKind.u8, K.int IntKind.u8, K.int IntKind.u8, K.int IntKind.u8, K.int IntKind.u8, K.int IntKind.u8, K.int IntKind.u8, K.int IntKind.i64, K.int IntKind.u8, K.int IntKind.u8, K.int IntKind.u8, K.int IntKind.u8, K.int IntKind.u8, K.int IntKind.u8, K.int IntKind.u8, K.int IntKind.u8, K.int IntKind.i64] (List.take m (List.drop 0 qs) ++ [[V.int IntKind.i64 e1.s.1, V.int IntKind.i64 e1.s.2, V.int IntKind.i64 e1.s.q.1, V.int IntKind.i64 e1.s.q.2, V.int IntKind.i64 e1.s.q.3, V.int IntKind.u8 e1.s.g.1, V.int IntKind.u8 e1.s.g.2, V.int IntKind.u8 e1.s.g.3, V.int IntKind.u8 e1.s.g.4, V.int IntKind.u8 e1.s.g.5, V.int IntKind.u8 e1.s.g.6, V.int IntKind.u8 e1.s.g.7, V.int IntKind.u8 e1.s.g.8, V.int IntKind.i64 e1.s.5, V.int IntKind.u8 e1.s.snd.c.1, V.int IntKind.u8 e1.s.snd.c.2, V.int IntKind.u8 e1.s.snd.c.3, V.int IntKind.u8 e1.s.snd.c.4, V.int IntKind.u8 e1.s.snd.c.5, V.int IntKind.u8 e1.s.snd.c.6, V.int IntKind.u8 e1.s.snd.c.7, V.int IntKind.u8 e1.s.snd.c.8, V.int IntKind.i64 e1.s.snd.2, V.int IntKind.u8 e1.s.rcv.c.1, V.int IntKind.u8 e1.s.rcv.c.2, V.int IntKind.u8 e1.s.rcv.c.3, V.int IntKind.u8 e1.s.rcv.c.4, V.int IntKind.u8 e1.s.rcv.c.5, V.int IntKind.u8 e1.s.rcv.c.6, V.int IntKind.u8 e1.s.rcv.c.7, V.int IntKind.u8 e1.s.rcv.c.8, V.int IntKind.i64 e1.s.rcv.2]])] }) Tree.fail) Tree.fail) (Tree.leaf { e := Ex.nrm, vs := [V.ptr 0 0 0 0, V.int IntKind.i64 now, V.sl 1 0 0 32 m none, V.sl 2 0 0 9 5 none, V.int IntKind.i64 5, V.int IntKind.i64 (IntKind.i64.wrap (i + 1))], upd := [none, none, none, none, none, none, none, none, none], new := [] })) Tree.fail) Tree.fail) (Tree.ite ((V.toInt ((rs.getD (0 + i.toNat) []).getD 0 V.any)) == p2.c.1 && ((V.toInt ((rs.getD (0 + i.toNat) []).getD 1 V.any)) == p2.c.2 && ((V.toInt ((rs.getD (0 + i.toNat) []).getD 2 V.any)) == p2.c.3 && ((V.toInt ((rs.getD (0 + i.toNat) []).getD 3 V.any)) == p2.c.4 && ((V.toInt ((rs.getD (0 + i.toNat) []).getD 4 V.any)) == p2.c.5 && ((V.toInt ((rs.getD (0 + i.toNat) []).getD 5 V.any)) == p2.c.6 && ((V.toInt ((rs.getD (0 + i.toNat) []).getD 6 V.any)) == p2.c.7 && ((V.toInt ((rs.getD (0 + i.toNat) []).getD 7 V.any)) == p2.c.8 && true))))))) && ((V.toInt ((rs.getD (0 + i.toNat) []).getD 8 V.any)) == p2.2 && true)) (Tree.ite (true && decide (0 ≤ e2.m) && decide (e2.m ≤ 2)) (Tree.ite (decide (e2.m.toNat - 0 ≤ 2) && decide ((↑(e2.m.toNat - 0) : Int) = (↑(e2.m.toNat - 0) : Int))) (Tree.ite (cntE e2 (e2.m.toNat - 0) now win == 2) (Tree.ite (decide (0 + m ≤ qs.length) && true) (Tree.ite (decide ((List.take m (List.drop 0 qs) ++ [[V.int IntKind.i64 e2.s.1, V.int IntKind.i64 e2.s.2, V.int IntKind.i64 e2.s.q.1, V.int IntKind.i64 e2.s.q.2, V.int IntKind.i64 e2.s.q.3, V.int IntKind.u8 e2.s.g.1, V.int IntKind.u8 e2.s.g.2, V.int IntKind.u8 e2.s.g.3, V.int IntKind.u8 e2.s.g.4, V.int IntKind.u8 e2.s.g.5, V.int IntKind.u8 e2.s.g.6, V.int IntKind.u8 e2.s.g.7, V.int IntKind.u8 e2.s.g.8, V.int IntKind.i64 e2.s.5, V.int IntKind.u8 e2.s.snd.c.1, V.int IntKind.u8 e2.s.snd.c.2, V.int IntKind.u8 e2.s.snd.c.3, V.int IntKind.u8 e2.s.snd.c.4, V.int IntKind.u8 e2.s.snd.c.5, V.int IntKind.u8 e2.s.snd.c.6, V.int IntKind.u8 e2.s.snd.c.7, V.int IntKind.u8 e2.s.snd.c.8, V.int IntKind.i64 e2.s.snd.2, V.int IntKind.u8 e2.s.rcv.c.1, V.int IntKind.u8 e2.s.rcv.c.2, V.int IntKind.u8 e2.s.rcv.c.3, V.int IntKind.u8 e2.s.rcv.c.4, V.int IntKind.u8 e2.s.rcv.c.5, V.int IntKind.u8 e2.s.rcv.c.6, V.int IntKind.u8 e2.s.rcv.c.7, V.int IntKind.u8 e2.s.rcv.c.8, V.int IntKind.i64 e2.s.rcv.2]]).length * 88 ≤ 140737488355328)) (Tree.leaf { e := Ex.nrm, vs := [V.ptr 0 0 0 0, V.int IntKind.i64 now, V.sl 9 0 0 32 (List.take m (List.drop 0 qs) ++ [[V.int IntKind.i64 e2.s.1, V.int IntKind.i64 e2.s.2, V.int IntKind.i64 e2.s.q.1, V.int IntKind.i64 e2.s.q.2, V.int IntKind.i64 e2.s.q.3, V.int IntKind.u8 e2.s.g.1, V.int IntKind.u8 e2.s.g.2, V.int IntKind.u8 e2.s.g.3, V.int IntKind.u8 e2.s.g.4, V.int IntKind.u8 e2.s.g.5, V.int IntKind.u8 e2.s.g.6, V.int IntKind.u8 e2.s.g.7, V.int IntKind.u8 e2.s.g.8, V.int IntKind.i64 e2.s.5, V.int IntKind.u8 e2.s.snd.c.1, V.int IntKind.u8 e2.s.snd.c.2, V.int IntKind.u8 e2.s.snd.c.3, V.int IntKind.u8 e2.s.snd.c.4, V.int IntKind.u8 e2.s.snd.c.5, V.int IntKind.u8 e2.s.snd.c.6, V.int IntKind.u8 e2.s.snd.c.7, V.int IntKind.u8 e2.s.snd.c.8, V.int IntKind.i64 e2.s.snd.2, V.int IntKind.u8 e2.s.rcv.c.1, V.int IntKind.u8 e2.s.rcv.c.2, V.int IntKind.u8 e2.s.rcv.c.3, V.int IntKind.u8 e2.s.rcv.c.4, V.int IntKind.u8 e2.s.rcv.c.5, V.int IntKind.u8 e2.s.rcv.c.6, V.int IntKind.u8 e2.s.rcv.c.7, V.int IntKind.u8 e2.s.rcv.c.8, V.int IntKind.i64 e2.s.rcv.2]]).length none, V.sl 2 0 0 9 5 none, V.int IntKind.i64 5, V.int IntKind.i64 (IntKind.i64.wrap (i + 1))], upd := [none, some none, none, none, none, none, none, none, none], new := [Body.rows [K.int IntKind.i64, K.int IntKind.i64, K.int IntKind.i64, K.int IntKind.i64, K.int IntKind.i64, K.int IntKind.u8, K.int IntKind.u8, K.int IntKind.u8, K.int IntKind.u8, K.int IntKind.u8, K.int IntKind.u8, K.int IntKind.u8, K.int IntKind.u8, K.int IntKind.i64, K.int IntKind.u8, K.int IntKind.u8, K.int IntKind.u8, K.int IntKind.u8, K.int IntKind.u8, K.int IntKind.u8, K.int IntKind.u8, K.int IntKind.u8, K.int IntKind.i64, K.int IntKind.u8, K.int IntKind.u8, K.int IntKind.u8, K.int IntKind.u8, K.int IntKind.u8, K.int IntKind.u8, K.int IntKind.u8, K.int IntKind.u8, K.int IntKind.i64] (List.take m (List.drop 0 qs) ++ [[V.int IntKind.i64 e2.s.1, V.int IntKind.i64 e2.s.2, V.int IntKind.i64 e2.s.q.1, V.int IntKind.i64 e2.s.q.2, V.int IntKind.i64 e2.s.q.3, V.int IntKind.u8 e2.s.g.1, V.int IntKind.u8 e2.s.g.2, V.int IntKind.u8 e2.s.g.3, V.int IntKind.u8 e2.s.g.4, V.int IntKind.u8 e2.s.g.5, V.int IntKind.u8 e2.s.g.6, V.int IntKind.u8 e2.s.g.7, V.int IntKind.u8 e2.s.g.8, V.int IntKind.i64 e2.s.5, V.int IntKind.u8 e2.s.snd.c.1, V.int IntKind.u8 e2.s.snd.c.2, V.int IntKind.u8 e2.s.snd.c.3, V.int IntKind.u8 e2.s.snd.c.4, V.int IntKind.u8 e2.s.snd.c.5, V.int IntKind.u8 e2.s.snd.c.6, V.int IntKind.u8 e2.s.snd.c.7, V.int IntKind.u8 e2.s.snd.c.8, V.int IntKind.i64 e2.s.snd.2, V.int IntKind.u8 e2.s.rcv.c.1, V.int IntKind.u8 e2.s.rcv.c.2, V.int IntKind.u8 e2.s.rcv.c.3, V.int IntKind.u8 e2.s.rcv.c.4, V.int IntKind.u8 e2.s.rcv.c.5, V.int IntKind.u8 e2.s.rcv.c.6, V.int IntKind.u8 e2.s.rcv.c.7, V.int IntKind.u8 e2.s.rcv.c.8, V.int IntKind.i64 e2.s.rcv.2]])] }) Tree.fail) Tree.fail) (Tree.leaf { e := Ex.nrm, vs := [V.ptr 0 0 0 0, V.int IntKind.i64 now, V.sl 1 0 0 32 m none, V.sl 2 0 0 9 5 none, V.int IntKind.i64 5, V.int IntKind.i64 (IntKind.i64.wrap (i + 1))], upd := [none, none, none, none, none, none, none, none, none], new := [] })) Tree.fail) Tree.fail) (Tree.ite ((V.toInt ((rs.getD (0 + i.toNat) []).getD 0 V.any)) == p3.c.1 && ((V.toInt ((rs.getD (0 + i.toNat) []).getD 1 V.any)) == p3.c.2 && ((V.toInt ((rs.getD (0 + i.toNat) []).getD 2 V.any)) == p3.c.3 && ((V.toInt ((rs.getD (0 + i.toNat) []).getD 3 V.any)) == p3.c.4 && ((V.toInt ((rs.getD (0 + i.toNat) []).getD 4 V.any)) == p3.c.5 && ((V.toInt ((rs.getD (0 + i.toNat) []).getD 5 V.any)) == p3.c.6 && ((V.toInt ((rs.getD (0 + i.toNat) []).getD 6 V.any)) == p3.c.7 && ((V.toInt ((rs.getD (0 + i.toNat) []).getD 7 V.any)) == p3.c.8 && true))))))) && ((V.toInt ((rs.getD (0 + i.toNat) []).getD 8 V.any)) == p3.2 && true)) (Tree.ite (true && decide (0 ≤ e3.m) && decide (e3.m ≤ 2)) (Tree.ite (decide (e3.m.toNat - 0 ≤ 2) && decide ((↑(e3.m.toNat - 0) : Int) = (↑(e3.m.toNat - 0) : Int))) (Tree.ite (cntE e3 (e3.m.toNat - 0) now win == 2) (Tree.ite (decide (0 + m ≤ qs.length) && true) (Tree.ite (decide ((List.take m (List.drop 0 qs) ++ [[V.int IntKind.i64 e3.s.1, V.int IntKind.i64 e3.s.2, V.int IntKind.i64 e3.s.q.1, V.int IntKind.i64 e3.s.q.2, V.int IntKind.i64 e3.s.q.3, V.int IntKind.u8 e3.s.g.1, V.int IntKind.u8 e3.s.g.2, V.int IntKind.u8 e3.s.g.3, V.int IntKind.u8 e3.s.g.4, V.int IntKind.u8 e3.s.g.5, V.int IntKind.u8 e3.s.g.6, V.int IntKind.u8 e3.s.g.7, V.int IntKind.u8 e3.s.g.8, V.int IntKind.i64 e3.s.5, V.int IntKind.u8 e3.s.snd.c.1, V.int IntKind.u8 e3.s.snd.c.2, V.int IntKind.u8 e3.s.snd.c.3, V.int IntKind.u8 e3.s.snd.c.4, V.int IntKind.u8 e3.s.snd.c.5, V.int IntKind.u8 e3.s.snd.c.6, V.int IntKind.u8 e3.s.snd.c.7, V.int IntKind.u8 e3.s.snd.c.8, V.int IntKind.i64 e3.s.snd.2, V.int IntKind.u8 e3.s.rcv.c.1, V.int IntKind.u8 e3.s.rcv.c.2, V.int IntKind.u8 e3.s.rcv.c.3, V.int IntKind.u8 e3.s.rcv.c.4, V.int IntKind.u8 e3.s.rcv.c.5, V.int IntKind.u8 e3.s.rcv.c.6, V.int IntKind.u8 e3.s.rcv.c.7, V.int IntKind.u8 e3.s.rcv.c.8, V.int IntKind.i64 e3.s.rcv.2]]).length * 88 ≤ 140737488355328)) (Tree.leaf { e := Ex.nrm, vs := [V.ptr 0 0 0 0, V.int IntKind.i64 now, V.sl 9 0 0 32 (List.take m (List.drop 0 qs) ++ [[V.int IntKind.i64 e3.s.1, V.int IntKind.i64 e3.s.2, V.int IntKind.i64 e3.s.q.1, V.int IntKind.i64 e3.s.q.2, V.int IntKind.i64 e3.s.q.3, V.int IntKind.u8 e3.s.g.1, V.int IntKind.u8 e3.s.g.2, V.int IntKind.u8 e3.s.g.3, V.int IntKind.u8 e3.s.g.4, V.int IntKind.u8 e3.s.g.5, V.int IntKind.u8 e3.s.g.6, V.int IntKind.u8 e3.s.g.7, V.int IntKind.u8 e3.s.g.8, V.int IntKind.i64 e3.s.5, V.int IntKind.u8 e3.s.snd.c.1, V.int IntKind.u8 e3.s.snd.c.2, V.int IntKind.u8 e3.s.snd.c.3, V.int IntKind.u8 e3.s.snd.c.4, V.int IntKind.u8 e3.s.snd.c.5, V.int IntKind.u8 e3.s.snd.c.6, V.int IntKind.u8 e3.s.snd.c.7, V.int IntKind.u8 e3.s.snd.c.8, V.int IntKind.i64 e3.s.snd.2, V.int IntKind.u8 e3.s.rcv.c.1, V.int IntKind.u8 e3.s.rcv.c.2, V.int IntKind.u8 e3.s.rcv.c.3, V.int IntKind.u8 e3.s.rcv.c.4, V.int IntKind.u8 e3.s.rcv.c.5, V.int IntKind.u8 e3.s.rcv.c.6, V.int IntKind.u8 e3.s.rcv.c.7, V.int IntKind.u8 e3.s.rcv.c.8, V.int IntKind.i64 e3.s.rcv.2]]).length none, V.sl 2 0 0 9 5 none, V.int IntKind.i64 5, V.int IntKind.i64 (IntKind.i64.wrap (i + 1))], upd := [none, some none, none, none, none, none, none, none, none], new := [Body.rows [K.int IntKind.i64, K.int IntKind.i64, K.int IntKind.i64, K.int IntKind.i64, K.int IntKind.i64, K.int IntKind.u8, K.int IntKind.u8, K.int IntKind.u8, K.int IntKind.u8, K.int IntKind.u8, K.int IntKind.u8, K.int IntKind.u8, K.int IntKind.u8, K.int IntKind.i64, K.int IntKind.u8, K.int IntKind.u8, K.int IntKind.u8, K.int IntKind.u8, K.int IntKind.u8, K.int IntKind.u8, K.int IntKind.u8, K.int IntKind.u8, K.int IntKind.i64, K.int IntKind.u8, K.int IntKind.u8, K.int IntKind.u8, K.int IntKind.u8, K.int IntKind.u8, K.int IntKind.u8, K.int IntKind.u8, K.int IntKind.u8, K.int IntKind.i64] (List.take m (List.drop 0 qs) ++ [[V.int IntKind.i64 e3.s.1, V.int IntKind.i64 e3.s.2, V.int IntKind.i64 e3.s.q.1, V.int IntKind.i64 e3.s.q.2, V.int IntKind.i64 e3.s.q.3, V.int IntKind.u8 e3.s.g.1, V.int IntKind.u8 e3.s.g.2, V.int IntKind.u8 e3.s.g.3, V.int IntKind.u8 e3.s.g.4, V.int IntKind.u8 e3.s.g.5, V.int IntKind.u8 e3.s.g.6, V.int IntKind.u8 e3.s.g.7, V.int IntKind.u8 e3.s.g.8, V.int IntKind.i64 e3.s.5, V.int IntKind.u8 e3.s.snd.c.1, V.int IntKind.u8 e3.s.snd.c.2, V.int IntKind.u8 e3.s.snd.c.3, V.int IntKind.u8 e3.s.snd.c.4, V.int IntKind.u8 e3.s.snd.c.5, V.int IntKind.u8 e3.s.snd.c.6, V.int IntKind.u8 e3.s.snd.c.7, V.int IntKind.u8 e3.s.snd.c.8, V.int IntKind.i64 e3.s.snd.2, V.int IntKind.u8 e3.s.rcv.c.1, V.int IntKind.u8 e3.s.rcv.c.2, V.int IntKind.u8 e3.s.rcv.c.3, V.int IntKind.u8 e3.s.rcv.c.4, V.int IntKind.u8 e3.s.rcv.c.5, V.int IntKind.u8 e3.s.rcv.c.6, V.int IntKind.u8 e3.s.rcv.c.7, V.int IntKind.u8 e3.s.rcv.c.8, V.int IntKind.i64 e3.s.rcv.2]])] }) Tree.fail) Tree.fail) (Tree.leaf { e := Ex.nrm, vs := [V.ptr 0 0 0 0, V.int IntKind.i64 now, V.sl 1 0 0 32 m none, V.sl 2 0 0 9 5 none, V.int IntKind.i64 5, V.int IntKind.i64 (IntKind.i64.wrap (i + 1))], upd := [none, none, none, none, none, none, none, none, none], new := [] })) Tree.fail) Tree.fail) (Tree.ite ((V.toInt ((rs.getD (0 + i.toNat) []).getD 0 V.any)) == p4.c.1 && ((V.toInt ((rs.getD (0 + i.toNat) []).getD 1 V.any)) == p4.c.2 && ((V.toInt ((rs.getD (0 + i.toNat) []).getD 2 V.any)) == p4.c.3 && ((V.toInt ((rs.getD (0 + i.toNat) []).getD 3 V.any)) == p4.c.4 && ((V.toInt ((rs.getD (0 + i.toNat) []).getD 4 V.any)) == p4.c.5 && ((V.toInt ((rs.getD (0 + i.toNat) []).getD 5 V.any)) == p4.c.6 && ((V.toInt ((rs.getD (0 + i.toNat) []).getD 6 V.any)) == p4.c.7 && ((V.toInt ((rs.getD (0 + i.toNat) []).getD 7 V.any)) == p4.c.8 && true))))))) && ((V.toInt ((rs.getD (0 + i.toNat) []).getD 8 V.any)) == p4.2 && true)) (Tree.ite (true && decide (0 ≤ e4.m) && decide (e4.m ≤ 2)) (Tree.ite (decide (e4.m.toNat - 0 ≤ 2) && decide ((↑(e4.m.toNat - 0) : Int) = (↑(e4.m.toNat - 0) : Int))) (Tree.ite (cntE e4 (e4.m.toNat - 0) now win == 2) (Tree.ite (decide (0 + m ≤ qs.length) && true) (Tree.ite (decide ((List.take m (List.drop 0 qs) ++ [[V.int IntKind.i64 e4.s.1, V.int IntKind.i64 e4.s.2, V.int IntKind.i64 e4.s.q.1, V.int IntKind.i64 e4.s.q.2, V.int IntKind.i64 e4.s.q.3, V.int IntKind.u8 e4.s.g.1, V.int IntKind.u8 e4.s.g.2, V.int IntKind.u8 e4.s.g.3, V.int IntKind.u8 e4.s.g.4, V.int IntKind.u8 e4.s.g.5, V.int IntKind.u8 e4.s.g.6, V.int IntKind.u8 e4.s.g.7, V.int IntKind.u8 e4.s.g.8, V.int IntKind.i64 e4.s.5, V.int IntKind.u8 e4.s.snd.c.1, V.int IntKind.u8 e4.s.snd.c.2, V.int IntKind.u8 e4.s.snd.c.3, V.int IntKind.u8 e4.s.snd.c.4, V.int IntKind.u8 e4.s.snd.c.5, V.int IntKind.u8 e4.s.snd.c.6, V.int IntKind.u8 e4.s.snd.c.7, V.int IntKind.u8 e4.s.snd.c.8, V.int IntKind.i64 e4.s.snd.2, V.int IntKind.u8 e4.s.rcv.c.1, V.int IntKind.u8 e4.s.rcv.c.2, V.int IntKind.u8 e4.s.rcv.c.3, V.int IntKind.u8 e4.s.rcv.c.4, V.int IntKind.u8 e4.s.rcv.c.5, V.int IntKind.u8 e4.s.rcv.c.6, V.int IntKind.u8 e4.s.rcv.c.7, V.int IntKind.u8 e4.s.rcv.c.8, V.int IntKind.i64 e4.s.rcv.2]]).length * 88 ≤ 140737488355328)) (Tree.leaf { e := Ex.nrm, vs := [V.ptr 0 0 0 0, V.int IntKind.i64 now, V.sl 9 0 0 32 (List.take m (List.drop 0 qs) ++ [[V.int IntKind.i64 e4.s.1, V.int IntKind.i64 e4.s.2, V.int IntKind.i64 e4.s.q.1, V.int IntKind.i64 e4.s.q.2, V.int IntKind.i64 e4.s.q.3, V.int IntKind.u8 e4.s.g.1, V.int IntKind.u8 e4.s.g.2, V.int IntKind.u8 e4.s.g.3, V.int IntKind.u8 e4.s.g.4, V.int IntKind.u8 e4.s.g.5, V.int IntKind.u8 e4.s.g.6, V.int IntKind.u8 e4.s.g.7, V.int IntKind.u8 e4.s.g.8, V.int IntKind.i64 e4.s.5, V.int IntKind.u8 e4.s.snd.c.1, V.int IntKind.u8 e4.s.snd.c.2, V.int IntKind.u8 e4.s.snd.c.3, V.int IntKind.u8 e4.s.snd.c.4, V.int IntKind.u8 e4.s.snd.c.5, V.int IntKind.u8 e4.s.snd.c.6, V.int IntKind.u8 e4.s.snd.c.7, V.int IntKind.u8 e4.s.snd.c.8, V.int IntKind.i64 e4.s.snd.2, V.int IntKind.u8 e4.s.rcv.c.1, V.int IntKind.u8 e4.s.rcv.c.2, V.int IntKind.u8 e4.s.rcv.c.3, V.int IntKind.u8 e4.s.rcv.c.4, V.int IntKind.u8 e4.s.rcv.c.5, V.int IntKind.u8 e4.s.rcv.c.6, V.int IntKind.u8 e4.s.rcv.c.7, V.int IntKind.u8 e4.s.rcv.c.8, V.int IntKind.i64 e4.s.rcv.2]]).length none, V.sl 2 0 0 9 5 none, V.int IntKind.i64 5, V.int IntKind.i64 (IntKind.i64.wrap (i + 1))], upd := [none, some none, none, none, none, none, none, none, none], new := [Body.rows [K.int IntKind.i64, K.int IntKind.i64, K.int IntKind.i64, K.int IntKind.i64, K.int IntKind.i64, K.int IntKind.u8, K.int IntKind.u8, K.int IntKind.u8, K.int IntKind.u8, K.int IntKind.u8, K.int IntKind.u8, K.int IntKind.u8, K.int IntKind.u8, K.int IntKind.i64, K.int IntKind.u8, K.int IntKind.u8, K.int IntKind.u8, K.int IntKind.u8, K.int IntKind.u8, K.int IntKind.u8, K.int IntKind.u8, K.int IntKind.u8, K.int IntKind.i64, K.int IntKind.u8, K.int IntKind.u8, K.int IntKind.u8, K.int IntKind.u8, K.int IntKind.u8, K.int IntKind.u8, K.int IntKind.u8, K.int IntKind.u8, K.int IntKind.i64] (List.take m (List.drop 0 qs) ++ [[V.int IntKind.i64 e4.s.1, V.int IntKind.i64 e4.s.2, V.int IntKind.i64 e4.s.q.1, V.int IntKind.i64 e4.s.q.2, V.int IntKind.i64 e4.s.q.3, V.int IntKind.u8 e4.s.g.1, V.int IntKind.u8 e4.s.g.2, V.int IntKind.u8 e4.s.g.3, V.int IntKind.u8 e4.s.g.4, V.int IntKind.u8 e4.s.g.5, V.int IntKind.u8 e4.s.g.6, V.int IntKind.u8 e4.s.g.7, V.int IntKind.u8 e4.s.g.8, V.int IntKind.i64 e4.s.5, V.int IntKind.u8 e4.s.snd.c.1, V.int IntKind.u8 e4.s.snd.c.2, V.int IntKind.u8 e4.s.snd.c.3, V.int IntKind.u8 e4.s.snd.c.4, V.int IntKind.u8 e4.s.snd.c.5, V.int IntKind.u8 e4.s.snd.c.6, V.int IntKind.u8 e4.s.snd.c.7, V.int IntKind.u8 e4.s.snd.c.8, V.int IntKind.i64 e4.s.snd.2, V.int IntKind.u8 e4.s.rcv.c.1, V.int IntKind.u8 e4.s.rcv.c.2, V.int IntKind.u8 e4.s.rcv.c.3, V.int IntKind.u8 e4.s.rcv.c.4, V.int IntKind.u8 e4.s.rcv.c.5, V.int IntKind.u8 e4.s.rcv.c.6, V.int IntKind.u8 e4.s.rcv.c.7, V.int IntKind.u8 e4.s.rcv.c.8, V.int IntKind.i64 e4.s.rcv.2]])] }) Tree.fail) Tree.fail) (Tree.leaf { e := Ex.nrm, vs := [V.ptr 0 0 0 0, V.int IntKind.i64 now, V.sl 1 0 0 32 m none, V.sl 2 0 0 9 5 none, V.int IntKind.i64 5, V.int IntKind.i64 (IntKind.i64.wrap (i + 1))], upd := [none, none, none, none, none, none, none, none, none], new := [] })) Tree.fail) Tree.fail) Tree.fail))))) Tree.fail) Tree.fail) (Tree.leaf { e := Ex.exit 0, vs := [V.sl 1 0 0 32 m none], upd := [none, none, none, none, none, none, none, none, none], new := [] })) := by
  kernel_rfl
theorem qs_5 (own : Ck) (win now : Int) (k : Nat) (l : List Prt) (q : List Ste) (x : Prt) (p0 p1 p2 p3 p4 : Prt) (e0 e1 e2 e3 e4 : Ent) (hx : l[k]? = some x) (hk : k < 5) (hq : q.length < 1000) (hi : inE x [(p0, e0), (p1, e1), (p2, e2), (p3, e3), (p4, e4)] = true) (hw : wfE [(p0, e0), (p1, e1), (p2, e2), (p3, e3), (p4, e4)] = true) :
    (qRd (qV now q.length 5 k) (qBl (q.map Ste.vs) (l.map Prt.vs) own win [(p0, e0), (p1, e1), (p2, e2), (p3, e3), (p4, e4)])).den = some (match qC now win x [(p0, e0), (p1, e1), (p2, e2), (p3, e3), (p4, e4)] with
      | true => ⟨.nrm, qV now q.length 5 (k + 1 : Nat) |>.set 2 (.sl 9 0 0 32 (q ++ [(lastE x [(p0, e0), (p1, e1), (p2, e2), (p3, e3), (p4, e4)]).1]).length none), none :: some none :: List.replicate 7 none, [.rows stK ((q ++ [(lastE x [(p0, e0), (p1, e1), (p2, e2), (p3, e3), (p4, e4)]).1]).map Ste.vs)]⟩
      | false => ⟨.nrm, qV now q.length 5 (k + 1 : Nat), List.replicate 9 none, []⟩) := by
  have st := qr_5 own win now k (l.map Prt.vs) (q.map Ste.vs) q.length p0 p1 p2 p3 p4 e0 e1 e2 e3 e4
  have ht : List.take q.length (List.drop 0 (q.map Ste.vs)) = q.map Ste.vs := by rw [List.drop_zero]; exact List.take_of_length_le (by simp)
  have hgi : (l.map Prt.vs).getD k [] = x.vs := by
    rw [List.getD_eq_getElem?_getD, List.getElem?_map, hx]; rfl
  have hkl : k < l.length := (List.getElem?_eq_some_iff.1 hx).1
  obtain ⟨⟨x0, x1, x2, x3⟩, x4, x5, x6, x7, x8⟩ := vsp x
  have w1 : IntKind.i64.wrap (((k : Nat) : Int) + 1) = ((k + 1 : Nat) : Int) := by rw [wrap64_id (by omega) (by omega)]; omega
  simp only [wfE, List.all_cons, List.all_nil, Bool.and_eq_true, decide_eq_true_eq, and_true] at hw
  simp only [hgi, x0, x1, x2, x3, x4, x5, x6, x7, x8, vsx, vsxS, eqf, w1, Int.toNat_natCast, Nat.zero_add, Nat.sub_zero, List.length_map, ht, appS] at st
  rw [decide_eq_true (show ((k : Nat) : Int) < (5 : Int) by omega), decide_eq_true (show (0 : Int) ≤ ((k : Nat) : Int) by omega), decide_eq_true hkl, decide_eq_true (show q.length ≤ q.length from Nat.le_refl _)] at st
  rw [decide_eq_true (show 0 ≤ e0.m from hw.1.1), decide_eq_true (show e0.m ≤ 2 from hw.1.2), decide_eq_true (show e0.m.toNat ≤ 2 by have := hw.1.2; omega), decide_eq_true (show (q ++ [e0.s]).length * 88 ≤ 140737488355328 by rw [List.length_append, List.length_singleton]; omega)] at st
  rw [decide_eq_true (show 0 ≤ e1.m from hw.2.1.1), decide_eq_true (show e1.m ≤ 2 from hw.2.1.2), decide_eq_true (show e1.m.toNat ≤ 2 by have := hw.2.1.2; omega), decide_eq_true (show (q ++ [e1.s]).length * 88 ≤ 140737488355328 by rw [List.length_append, List.length_singleton]; omega)] at st
  rw [decide_eq_true (show 0 ≤ e2.m from hw.2.2.1.1), decide_eq_true (show e2.m ≤ 2 from hw.2.2.1.2), decide_eq_true (show e2.m.toNat ≤ 2 by have := hw.2.2.1.2; omega), decide_eq_true (show (q ++ [e2.s]).length * 88 ≤ 140737488355328 by rw [List.length_append, List.length_singleton]; omega)] at st
  rw [decide_eq_true (show 0 ≤ e3.m from hw.2.2.2.1.1), decide_eq_true (show e3.m ≤ 2 from hw.2.2.2.1.2), decide_eq_true (show e3.m.toNat ≤ 2 by have := hw.2.2.2.1.2; omega), decide_eq_true (show (q ++ [e3.s]).length * 88 ≤ 140737488355328 by rw [List.length_append, List.length_singleton]; omega)] at st
  rw [decide_eq_true (show 0 ≤ e4.m from hw.2.2.2.2.1), decide_eq_true (show e4.m ≤ 2 from hw.2.2.2.2.2), decide_eq_true (show e4.m.toNat ≤ 2 by have := hw.2.2.2.2.2; omega), decide_eq_true (show (q ++ [e4.s]).length * 88 ≤ 140737488355328 by rw [List.length_append, List.length_singleton]; omega)] at st
  refine st.trans ?_
  clear st
  revert hi
  simp only [inE, qC, lastE]
  cases x.eqB p0
  · cases x.eqB p1
    · cases x.eqB p2
      · cases x.eqB p3
        · cases x.eqB p4
          · exact fun h => Bool.noConfusion (show false = true from h)
          · cases cntE e4 e4.m.toNat now win == 2
            · exact fun _ => by kernel_rfl
            · exact fun _ => by kernel_rfl
        · cases cntE e3 e3.m.toNat now win == 2
          · exact fun _ => by kernel_rfl
          · exact fun _ => by kernel_rfl
      · cases cntE e2 e2.m.toNat now win == 2
        · exact fun _ => by kernel_rfl
        · exact fun _ => by kernel_rfl
    · cases cntE e1 e1.m.toNat now win == 2
      · exact fun _ => by kernel_rfl
      · exact fun _ => by kernel_rfl
  · cases cntE e0 e0.m.toNat now win == 2
    · exact fun _ => by kernel_rfl
    · exact fun _ => by kernel_rfl
theorem qa_5 (own : Ck) (win now : Int) (l : List Prt) (p0 p1 p2 p3 p4 : Prt) (e0 e1 e2 e3 e4 : Ent) (hl : l.length = 5) (hi : ∀ x ∈ l, inE x [(p0, e0), (p1, e1), (p2, e2), (p3, e3), (p4, e4)] = true) (hw : wfE [(p0, e0), (p1, e1), (p2, e2), (p3, e3), (p4, e4)] = true) :
    ∀ (rest : List Prt) (k : Nat) (q : List Ste), l.drop k = rest → k ≤ 5 → q.length ≤ k →
    ∃ f, (qLN f (qV now q.length 5 k) (qBl (q.map Ste.vs) (l.map Prt.vs) own win [(p0, e0), (p1, e1), (p2, e2), (p3, e3), (p4, e4)])).den = some (resQ 5 q.length (q ++ quF now win [(p0, e0), (p1, e1), (p2, e2), (p3, e3), (p4, e4)] rest) (!(quF now win [(p0, e0), (p1, e1), (p2, e2), (p3, e3), (p4, e4)] rest).isEmpty)) := by
  intro rest
  induction rest with
  | nil =>
    intro k q hd hk hq
    have hk5 : k = 5 := by
      have := congrArg List.length hd
      rw [List.length_drop, hl, List.length_nil] at this
      omega
    subst hk5
    refine ⟨1, ?_⟩
    have hx := qr_5 own win now ((5 : Nat) : Int) (l.map Prt.vs) (q.map Ste.vs) q.length p0 p1 p2 p3 p4 e0 e1 e2 e3 e4
    rw [decide_eq_false (show ¬ ((5 : Nat) : Int) < (5 : Int) by decide)] at hx
    exact loopN_end hx (by show Ex.exit 0 ≠ Ex.nrm; decide)
  | cons x rest ih =>
    intro k q hd hk hq
    obtain ⟨hx, hd', hkl⟩ := drop_cons hd
    have st := qs_5 own win now k l q x p0 p1 p2 p3 p4 e0 e1 e2 e3 e4 hx (by omega) (by omega) (hi x (List.mem_of_getElem? hx)) hw
    cases hc : qC now win x [(p0, e0), (p1, e1), (p2, e2), (p3, e3), (p4, e4)] with
    | false =>
      rw [hc] at st
      obtain ⟨f, hf⟩ := ih (k + 1) q hd' (by omega) (by omega)
      refine ⟨f + 1, ?_⟩
      have hF : quF now win [(p0, e0), (p1, e1), (p2, e2), (p3, e3), (p4, e4)] (x :: rest) = quF now win [(p0, e0), (p1, e1), (p2, e2), (p3, e3), (p4, e4)] rest := by
        unfold quF
        rw [List.filter_cons_of_neg (by rw [hc]; simp)]
      rw [hF]
      refine loopN_step st rfl (vals' := qV now q.length 5 (k + 1 : Nat)) (bs' := qBl (q.map Ste.vs) (l.map Prt.vs) own win [(p0, e0), (p1, e1), (p2, e2), (p3, e3), (p4, e4)]) (by kernel_rfl) (by kernel_rfl) (by kernel_rfl) hf ?_
      generalize quF now win [(p0, e0), (p1, e1), (p2, e2), (p3, e3), (p4, e4)] rest = F
      cases F with
      | nil => (show (seqAfter _ _ _).den = some _; kernel_rfl)
      | cons a b => (show (seqAfter _ _ _).den = some _; kernel_rfl)
    | true =>
      rw [hc] at st
      obtain ⟨f, hf⟩ := ih (k + 1) (q ++ [(lastE x [(p0, e0), (p1, e1), (p2, e2), (p3, e3), (p4, e4)]).1]) hd' (by omega) (by rw [List.length_append, List.length_singleton]; omega)
      refine ⟨f + 1, ?_⟩
      have hF : quF now win [(p0, e0), (p1, e1), (p2, e2), (p3, e3), (p4, e4)] (x :: rest) = (lastE x [(p0, e0), (p1, e1), (p2, e2), (p3, e3), (p4, e4)]).1 :: quF now win [(p0, e0), (p1, e1), (p2, e2), (p3, e3), (p4, e4)] rest := by
        unfold quF
        rw [List.filter_cons_of_pos (by rw [hc]), List.map_cons]
      rw [hF]
      generalize (lastE x [(p0, e0), (p1, e1), (p2, e2), (p3, e3), (p4, e4)]).1 = y at st hf ⊢
      refine loopN_step st rfl (vals' := qV now (q ++ [y]).length 5 (k + 1 : Nat)) (bs' := qBl ((q ++ [y]).map Ste.vs) (l.map Prt.vs) own win [(p0, e0), (p1, e1), (p2, e2), (p3, e3), (p4, e4)]) (by kernel_rfl) (by kernel_rfl) (by kernel_rfl) hf ?_
      generalize quF now win [(p0, e0), (p1, e1), (p2, e2), (p3, e3), (p4, e4)] rest = F
      rw [show q ++ [y] ++ F = q ++ y :: F by simp]
      cases F with
      | nil => (show (seqAfter _ _ _).den = some _; kernel_rfl)
      | cons a b => (show (seqAfter _ _ _).den = some _; kernel_rfl)
def qOutF (vals : List V) (bs : List Blk) : Tree LRes := match vals, bs with
  | [.ptr 0 0 0 0, .int .i64 now, .sl 1 0 0 32 0 none, .sl 2 0 0 9 n none, .int .i64 n', .int .i64 0], tc :: Body.rows s0 [] :: Body.rows sch rs :: tb => match tabPk 2 (tc :: tb) with
    | some (own, win, es) => .lit (decide (s0 = stK) && (decide (sch = pK) && Nat.ble es.length 5)) (.need (okR es.length rs es && (wfE es && (decide (n = es.length) && decide (n' = (n : Int))))) (.ite (quF now win es (prts rs)).isEmpty (.leaf (resQ es.length 0 [] false)) (.leaf (resQ es.length 0 (quF now win es (prts rs)) true))))
    | none => .fail
  | _, _ => .fail
abbrev qOutL : LSpec := ⟨65, [0, 1, 5, 13, 14, 15], [5], qOutF⟩
theorem qOut_loop : LoopOK P (loopAt Try.f12 0) qOutL := by
  refine loop_ok (GammaOK.nil P) hm (Λ := loopsOf [(8, qInL)]) (LoopsOK.inner (d := loopAt Try.f12 1) (by kernel_rfl) (by kernel_rfl) qIn_loop) qOutL ?_
  intro vals bs r h
  change (qOutF vals bs).den = some r at h
  unfold qOutF at h
  split at h
  · rename_i now n n' tc s0 sch rs tb
    split at h
    · rename_i own win es hb
      have hb := tabPk_eq hb
      rw [den_lit, den_need] at h
      obtain ⟨hs, ho, h⟩ := h
      simp only [Bool.and_eq_true, decide_eq_true_eq] at hs
      obtain ⟨rfl, rfl, hn⟩ := hs
      simp only [Bool.and_eq_true, decide_eq_true_eq] at ho
      obtain ⟨h0, hw, rfl, rfl⟩ := ho
      simp only [okR, Bool.and_eq_true, Nat.beq_eq, List.all_eq_true] at h0
      obtain ⟨h1, h2, h3, _⟩ := h0
      have h1 := prts_eq h1
      have hres : ∀ (f : Nat), (qLN f (qV now ([] : List Ste).length es.length (0 : Nat)) (qBl (([] : List Ste).map Ste.vs) ((prts rs).map Prt.vs) own win es)).den = some (resQ es.length ([] : List Ste).length ([] ++ quF now win es (prts rs)) (!(quF now win es (prts rs)).isEmpty)) → ∃ n, (qLN n [.ptr 0 0 0 0, .int .i64 now, .sl 1 0 0 32 0 none, .sl 2 0 0 9 es.length none, .int .i64 (es.length : Int), .int .i64 0] (tc :: Body.rows stK [] :: Body.rows pK rs :: tb)).den = some r := by
        intro f hf
        refine ⟨f, ?_⟩
        obtain ⟨rfl, rfl⟩ := List.cons.inj hb
        rw [← h1] at hf
        refine Eq.trans hf ?_
        rw [← h]
        cases hF : (quF now win es (prts rs)).isEmpty with
        | true => rw [List.isEmpty_iff.1 hF]; rfl
        | false => rfl
      clear hb h
      rcases es with _ | ⟨⟨p0, e0⟩, _ | ⟨⟨p1, e1⟩, _ | ⟨⟨p2, e2⟩, _ | ⟨⟨p3, e3⟩, _ | ⟨⟨p4, e4⟩, _ | ⟨⟨p5, e5⟩, es⟩⟩⟩⟩⟩⟩
      · obtain ⟨f, hf⟩ := qa_0 own win now (prts rs)   h2 h3 hw (prts rs) 0 [] rfl (by decide) (by decide)
        exact hres f hf
      · obtain ⟨f, hf⟩ := qa_1 own win now (prts rs) p0 e0 h2 h3 hw (prts rs) 0 [] rfl (by decide) (by decide)
        exact hres f hf
      · obtain ⟨f, hf⟩ := qa_2 own win now (prts rs) p0 p1 e0 e1 h2 h3 hw (prts rs) 0 [] rfl (by decide) (by decide)
        exact hres f hf
      · obtain ⟨f, hf⟩ := qa_3 own win now (prts rs) p0 p1 p2 e0 e1 e2 h2 h3 hw (prts rs) 0 [] rfl (by decide) (by decide)
        exact hres f hf
      · obtain ⟨f, hf⟩ := qa_4 own win now (prts rs) p0 p1 p2 p3 e0 e1 e2 e3 h2 h3 hw (prts rs) 0 [] rfl (by decide) (by decide)
        exact hres f hf
      · obtain ⟨f, hf⟩ := qa_5 own win now (prts rs) p0 p1 p2 p3 p4 e0 e1 e2 e3 e4 h2 h3 hw (prts rs) 0 [] rfl (by decide) (by decide)
        exact hres f hf
      · exact absurd hn (by simp)
    · simp [den_fail] at h
  · simp [den_fail] at h
abbrev quG (srt : List Prt → List Prt) : List (Nat × Rx.Spec) := [(24, seS srt)]
def quT (n : Nat) (rs : List (List V)) (now win : Int) (es : TabE) : Tree Res :=
  .ite (okR n rs es && (wfE es && true)) (.ite (quF now win es (prts rs)).isEmpty (.leaf ⟨.sl (n + 2) 0 0 32 0 none, noneU n, [.rows stK []]⟩) (.leaf ⟨.sl (n + 2) 0 0 32 (quF now win es (prts rs)).length none, noneU n, [.rows stK ((quF now win es (prts rs)).map Ste.vs)]⟩)) .fail
def quR (srt : List Prt → List Prt) (es : TabE) (win now : Int) : Tree Res := .need (wfE es) (.leaf ⟨.sl (es.length + 2) 0 0 32 (quF now win es (srt (es.map (·.1)))).length none, noneU es.length, [.rows stK ((quF now win es (srt (es.map (·.1)))).map Ste.vs)]⟩)
def quS (srt : List Prt → List Prt) : Rx.Spec := fun a b => match a, tabP b with
  | [.ptr 0 0 0 0, .int .i64 now], some (own, win, es) => .lit (Nat.ble es.length 5) (quR srt es win now)
  | _, _ => .fail
theorem nf_qu {srt : List Prt → List Prt} (hsrt : ∀ l, srt l = isoL l) (es : TabE) (win now : Int) (r : Res) (h : (quR srt es win now).denN = some r) : (quT es.length ((srt (es.map (·.1))).map Prt.vs) now win es).denN = some r := by
  unfold quR at h
  have hp : (srt (es.map (·.1))).Perm (es.map (·.1)) := by rw [hsrt]; exact isoL_perm _
  have ho : okR es.length ((srt (es.map (·.1))).map Prt.vs) es = true := by
    unfold okR
    rw [parseR_map, prts_map, hp.length_eq, List.length_map]
    simp only [Option.isSome_some, Bool.true_and, Bool.and_eq_true, List.all_eq_true, Nat.beq_eq]
    exact ⟨trivial, fun x hx => inE_mem (hp.mem_iff.1 hx), trivial⟩
  unfold quT
  rw [ho, prts_map]
  cases hw : wfE es with
  | false => rw [hw] at h; exact absurd h (by simp [Tree.need, denN_ite, denN_fail])
  | true =>
    rw [hw] at h
    refine Eq.trans ?_ h
    cases hF : (quF now win es (srt (es.map (·.1)))).isEmpty with
    | true => rw [List.isEmpty_iff.1 hF]; rfl
    | false => rfl
theorem qn_0 (srt : List Prt → List Prt) (own : Ck) (win now : Int)  : Tree.denN (fFn P (specsOf (quG srt)) (loopsOf [(3, qOutL)]) Try.f12 [.ptr 0 0 0 0, .int .i64 now] (tabB own win [])) = Tree.denN (quT 0 [] now win []) := show Tree.denN (fFn P (specsOf (quG srt)) (loopsOf [(3, qOutL)]) Try.f12 [.ptr 0 0 0 0, .int .i64 now] (tabB own win [])) = Tree.denN (quT 0 [] now win []) from by kernel_rfl
theorem qn_1 (srt : List Prt → List Prt) (own : Ck) (win now : Int) (p0 : Prt) (e0 : Ent) : Tree.denN (fFn P (specsOf (quG srt)) (loopsOf [(3, qOutL)]) Try.f12 [.ptr 0 0 0 0, .int .i64 now] (tabB own win [(p0, e0)])) = Tree.denN (quT 1 ((srt ([p0])).map Prt.vs) now win [(p0, e0)]) := show Tree.denN (fFn P (specsOf (quG srt)) (loopsOf [(3, qOutL)]) Try.f12 [.ptr 0 0 0 0, .int .i64 now] (tabB own win [(p0, e0)])) = Tree.denN (quT 1 ((srt ([p0])).map Prt.vs) now win [(p0, e0)]) from by kernel_rfl
theorem qn_2 (srt : List Prt → List Prt) (own : Ck) (win now : Int) (p0 p1 : Prt) (e0 e1 : Ent) : Tree.denN (fFn P (specsOf (quG srt)) (loopsOf [(3, qOutL)]) Try.f12 [.ptr 0 0 0 0, .int .i64 now] (tabB own win [(p0, e0), (p1, e1)])) = Tree.denN (quT 2 ((srt ([p0, p1])).map Prt.vs) now win [(p0, e0), (p1, e1)]) := show Tree.denN (fFn P (specsOf (quG srt)) (loopsOf [(3, qOutL)]) Try.f12 [.ptr 0 0 0 0, .int .i64 now] (tabB own win [(p0, e0), (p1, e1)])) = Tree.denN (quT 2 ((srt ([p0, p1])).map Prt.vs) now win [(p0, e0), (p1, e1)]) from by kernel_rfl
theorem qn_3 (srt : List Prt → List Prt) (own : Ck) (win now : Int) (p0 p1 p2 : Prt) (e0 e1 e2 : Ent) : Tree.denN (fFn P (specsOf (quG srt)) (loopsOf [(3, qOutL)]) Try.f12 [.ptr 0 0 0 0, .int .i64 now] (tabB own win [(p0, e0), (p1, e1), (p2, e2)])) = Tree.denN (quT 3 ((srt ([p0, p1, p2])).map Prt.vs) now win [(p0, e0), (p1, e1), (p2, e2)]) := show Tree.denN (fFn P (specsOf (quG srt)) (loopsOf [(3, qOutL)]) Try.f12 [.ptr 0 0 0 0, .int .i64 now] (tabB own win [(p0, e0), (p1, e1), (p2, e2)])) = Tree.denN (quT 3 ((srt ([p0, p1, p2])).map Prt.vs) now win [(p0, e0), (p1, e1), (p2, e2)]) from by kernel_rfl
theorem qn_4 (srt : List Prt → List Prt) (own : Ck) (win now : Int) (p0 p1 p2 p3 : Prt) (e0 e1 e2 e3 : Ent) : Tree.denN (fFn P (specsOf (quG srt)) (loopsOf [(3, qOutL)]) Try.f12 [.ptr 0 0 0 0, .int .i64 now] (tabB own win [(p0, e0), (p1, e1), (p2, e2), (p3, e3)])) = Tree.denN (quT 4 ((srt ([p0, p1, p2, p3])).map Prt.vs) now win [(p0, e0), (p1, e1), (p2, e2), (p3, e3)]) := show Tree.denN (fFn P (specsOf (quG srt)) (loopsOf [(3, qOutL)]) Try.f12 [.ptr 0 0 0 0, .int .i64 now] (tabB own win [(p0, e0), (p1, e1), (p2, e2), (p3, e3)])) = Tree.denN (quT 4 ((srt ([p0, p1, p2, p3])).map Prt.vs) now win [(p0, e0), (p1, e1), (p2, e2), (p3, e3)]) from by kernel_rfl
theorem qn_5 (srt : List Prt → List Prt) (own : Ck) (win now : Int) (p0 p1 p2 p3 p4 : Prt) (e0 e1 e2 e3 e4 : Ent) : Tree.denN (fFn P (specsOf (quG srt)) (loopsOf [(3, qOutL)]) Try.f12 [.ptr 0 0 0 0, .int .i64 now] (tabB own win [(p0, e0), (p1, e1), (p2, e2), (p3, e3), (p4, e4)])) = Tree.denN (quT 5 ((srt ([p0, p1, p2, p3, p4])).map Prt.vs) now win [(p0, e0), (p1, e1), (p2, e2), (p3, e3), (p4, e4)]) := show Tree.denN (fFn P (specsOf (quG srt)) (loopsOf [(3, qOutL)]) Try.f12 [.ptr 0 0 0 0, .int .i64 now] (tabB own win [(p0, e0), (p1, e1), (p2, e2), (p3, e3), (p4, e4)])) = Tree.denN (quT 5 ((srt ([p0, p1, p2, p3, p4])).map Prt.vs) now win [(p0, e0), (p1, e1), (p2, e2), (p3, e3), (p4, e4)]) from by kernel_rfl
theorem qu_ok {srt : List Prt → List Prt} (hsrt : ∀ l, srt l = isoL l) : SpecOK P 12 (quS srt) := by
  refine specOK_fast (.cons (se_ok hsrt) (.nil P) : GammaOK P (quG srt)) hm (Λ := loopsOf [(3, qOutL)]) Try.func12 (by kernel_rfl) (LoopsOK.outer (by kernel_rfl) (by kernel_rfl) qOut_loop) ?_
  intro args bs r h
  unfold quS at h
  split at h
  · rename_i now own win es hb
    have hb := tabP_eq hb
    subst hb
    rw [den_lit] at h
    obtain ⟨hn, h⟩ := h
    have h := nf_qu hsrt es win now _ (denN_of h)
    rcases es with _ | ⟨⟨p0, e0⟩, _ | ⟨⟨p1, e1⟩, _ | ⟨⟨p2, e2⟩, _ | ⟨⟨p3, e3⟩, _ | ⟨⟨p4, e4⟩, _ | ⟨⟨p5, e5⟩, es⟩⟩⟩⟩⟩⟩
    · have e0 : srt [] = [] := by rw [hsrt]; rfl
      rw [show ([] : TabE).map (·.1) = [] from rfl, e0] at h
      exact (qn_0 srt own win now).trans h
    · exact (qn_1 srt own win now p0 e0).trans h
    · exact (qn_2 srt own win now p0 p1 e0 e1).trans h
    · exact (qn_3 srt own win now p0 p1 p2 e0 e1 e2).trans h
    · exact (qn_4 srt own win now p0 p1 p2 p3 e0 e1 e2 e3).trans h
    · exact (qn_5 srt own win now p0 p1 p2 p3 p4 e0 e1 e2 e3 e4).trans h
    · exact absurd hn (by simp)
  · simp [den_fail] at h
end Go.Proofs.Ytgdalboilghciaa

set_option maxRecDepth 100000
set_option linter.unusedSimpArgs false
set_option linter.unusedVariables false
namespace Go.Proofs.Ytgdalboilghciaa
open Go.Rx
def neR (own : Ck) (ev : Int) : Tree Res :=
  .ite (decide (ev < 1)) (.leaf ⟨.tup [.nilp, .int .i64 1], [], []⟩) (.ite (decide (ev > 1099511627776)) (.leaf ⟨.tup [.nilp, .int .i64 1], [], []⟩) (.leaf ⟨.tup [.ptr 0 0 0 0, .int .i64 0], [], tabB own (IntKind.i64.wrap (4 * ev)) []⟩))
def neS : Rx.Spec := fun a b => match a, b with
  | [q, .int .i64 ev], [] => match Ck.of q with
    | some own => neR own ev
    | none => .fail
  | _, _ => .fail
theorem ne_nf (own : Ck) (ev : Int) : Tree.denN (fFn P (specsOf []) (loopsOf []) Try.f9 [own.v, .int .i64 ev] []) = Tree.denN (neR own ev) := show Tree.denN (fFn P (specsOf []) (loopsOf []) Try.f9 [own.v, .int .i64 ev] []) = Tree.denN (neR own ev) from by kernel_rfl
theorem ne_ok : SpecOK P 9 neS := by
  refine specOK_fast (GammaOK.nil P) hm (Λ := loopsOf []) Try.func9 (by kernel_rfl) (LoopsOK.nil (by kernel_rfl)) ?_
  intro args bs r h
  unfold neS at h
  split at h
  · rename_i q ev
    split at h
    · rename_i own hq
      have hq := Ck.of_eq hq
      subst hq
      exact (ne_nf own ev).trans (denN_of h)
    · simp [den_fail] at h
  · simp [den_fail] at h
/-- A call on a table. -/
structure Opp where
  k : Int
  now : Int
  s : Ste
  deriving DecidableEq, Inhabited
def Opp.vs (x : Opp) : List V := [V.int .i64 x.k] ++ ([V.int .i64 x.now] ++ x.s.vs)
def Opp.v (x : Opp) : V := .agg x.vs
def Opp.of (v : V) : Option Opp := match v with
  | .agg (.int .i64 k :: .int .i64 now :: r) => match Ste.p r with
    | some (s, []) => some ⟨k, now, s⟩
    | _ => none
  | _ => none
theorem Opp.of_eq {v : V} {x : Opp} (h : Opp.of v = some x) : v = x.v := by
  unfold Opp.of at h
  split at h
  · split at h
    · rename_i e
      cases h
      rw [Ste.p_eq e, List.append_nil]
      rfl
    · cases h
  · cases h
def doR (srt : List Prt → List Prt) (own : Ck) (win : Int) (es : TabE) (o : Opp) : Tree Res :=
  .ite (o.k == 0) (heR srt own win es o.s o.now)
    (.ite (o.k == 1) (chainE o.s.snd es 0 (fun i => .leaf ⟨.int .i64 1, kvU es.length ((keysB es).eraseIdx i) ((ptrsF 2 es.length).eraseIdx i), []⟩) (.leaf ⟨.int .i64 0, kvU es.length (keysB es) (ptrsF 2 es.length), []⟩))
      (.ite (o.k == 2) (.leaf ⟨.int .i64 0, kvU es.length [] [], []⟩) (.leaf ⟨.int .i64 0, noneU es.length, []⟩)))
def doS (srt : List Prt → List Prt) : Rx.Spec := fun a b => match a, tabP b with
  | [.ptr 0 0 0 0, q], some (own, win, es) => match Opp.of q with
    | some o => .lit (Nat.ble es.length 5) (doR srt own win es o)
    | none => .fail
  | _, _ => .fail
abbrev doG (srt : List Prt → List Prt) : List (Nat × Rx.Spec) := [(11, heS srt), (25, drS), (26, clS)]
theorem do_0 (srt : List Prt → List Prt) (own : Ck) (win : Int) (o : Opp)  : Tree.denN (fFn P (specsOf (doG srt)) (loopsOf []) Try.f14 [.ptr 0 0 0 0, o.v] (tabB own win [])) = Tree.denN (doR srt own win [] o) := show Tree.denN (fFn P (specsOf (doG srt)) (loopsOf []) Try.f14 [.ptr 0 0 0 0, o.v] (tabB own win [])) = Tree.denN (doR srt own win [] o) from by kernel_rfl
theorem do_1 (srt : List Prt → List Prt) (own : Ck) (win : Int) (o : Opp) (p0 : Prt) (e0 : Ent) : Tree.denN (fFn P (specsOf (doG srt)) (loopsOf []) Try.f14 [.ptr 0 0 0 0, o.v] (tabB own win [(p0, e0)])) = Tree.denN (doR srt own win [(p0, e0)] o) := show Tree.denN (fFn P (specsOf (doG srt)) (loopsOf []) Try.f14 [.ptr 0 0 0 0, o.v] (tabB own win [(p0, e0)])) = Tree.denN (doR srt own win [(p0, e0)] o) from by kernel_rfl
theorem do_2 (srt : List Prt → List Prt) (own : Ck) (win : Int) (o : Opp) (p0 p1 : Prt) (e0 e1 : Ent) : Tree.denN (fFn P (specsOf (doG srt)) (loopsOf []) Try.f14 [.ptr 0 0 0 0, o.v] (tabB own win [(p0, e0), (p1, e1)])) = Tree.denN (doR srt own win [(p0, e0), (p1, e1)] o) := show Tree.denN (fFn P (specsOf (doG srt)) (loopsOf []) Try.f14 [.ptr 0 0 0 0, o.v] (tabB own win [(p0, e0), (p1, e1)])) = Tree.denN (doR srt own win [(p0, e0), (p1, e1)] o) from by kernel_rfl
theorem do_3 (srt : List Prt → List Prt) (own : Ck) (win : Int) (o : Opp) (p0 p1 p2 : Prt) (e0 e1 e2 : Ent) : Tree.denN (fFn P (specsOf (doG srt)) (loopsOf []) Try.f14 [.ptr 0 0 0 0, o.v] (tabB own win [(p0, e0), (p1, e1), (p2, e2)])) = Tree.denN (doR srt own win [(p0, e0), (p1, e1), (p2, e2)] o) := show Tree.denN (fFn P (specsOf (doG srt)) (loopsOf []) Try.f14 [.ptr 0 0 0 0, o.v] (tabB own win [(p0, e0), (p1, e1), (p2, e2)])) = Tree.denN (doR srt own win [(p0, e0), (p1, e1), (p2, e2)] o) from by kernel_rfl
theorem do_4 (srt : List Prt → List Prt) (own : Ck) (win : Int) (o : Opp) (p0 p1 p2 p3 : Prt) (e0 e1 e2 e3 : Ent) : Tree.denN (fFn P (specsOf (doG srt)) (loopsOf []) Try.f14 [.ptr 0 0 0 0, o.v] (tabB own win [(p0, e0), (p1, e1), (p2, e2), (p3, e3)])) = Tree.denN (doR srt own win [(p0, e0), (p1, e1), (p2, e2), (p3, e3)] o) := show Tree.denN (fFn P (specsOf (doG srt)) (loopsOf []) Try.f14 [.ptr 0 0 0 0, o.v] (tabB own win [(p0, e0), (p1, e1), (p2, e2), (p3, e3)])) = Tree.denN (doR srt own win [(p0, e0), (p1, e1), (p2, e2), (p3, e3)] o) from by kernel_rfl
theorem do_5 (srt : List Prt → List Prt) (own : Ck) (win : Int) (o : Opp) (p0 p1 p2 p3 p4 : Prt) (e0 e1 e2 e3 e4 : Ent) : Tree.denN (fFn P (specsOf (doG srt)) (loopsOf []) Try.f14 [.ptr 0 0 0 0, o.v] (tabB own win [(p0, e0), (p1, e1), (p2, e2), (p3, e3), (p4, e4)])) = Tree.denN (doR srt own win [(p0, e0), (p1, e1), (p2, e2), (p3, e3), (p4, e4)] o) := show Tree.denN (fFn P (specsOf (doG srt)) (loopsOf []) Try.f14 [.ptr 0 0 0 0, o.v] (tabB own win [(p0, e0), (p1, e1), (p2, e2), (p3, e3), (p4, e4)])) = Tree.denN (doR srt own win [(p0, e0), (p1, e1), (p2, e2), (p3, e3), (p4, e4)] o) from by kernel_rfl
theorem do_ok {srt : List Prt → List Prt} (hsrt : ∀ l, srt l = isoL l) : SpecOK P 14 (doS srt) := by
  refine specOK_fast (.cons (he_ok (ov_ok hsrt)) (.cons dr_ok (.cons cl_ok (.nil P))) : GammaOK P (doG srt)) hm (Λ := loopsOf []) Try.func14 (by kernel_rfl) (LoopsOK.nil (by kernel_rfl)) ?_
  intro args bs r h
  unfold doS at h
  split at h
  · rename_i q own win es hb
    split at h
    · rename_i o hq
      have hb := tabP_eq hb
      subst hb
      have hq := Opp.of_eq hq
      subst hq
      rw [den_lit] at h
      obtain ⟨hn, h⟩ := h
      have h := denN_of h
      rw [← h]
      rcases es with _ | ⟨⟨p0, e0⟩, _ | ⟨⟨p1, e1⟩, _ | ⟨⟨p2, e2⟩, _ | ⟨⟨p3, e3⟩, _ | ⟨⟨p4, e4⟩, _ | ⟨⟨p5, e5⟩, es⟩⟩⟩⟩⟩⟩
      · exact do_0 srt own win o  
      · exact do_1 srt own win o p0 e0
      · exact do_2 srt own win o p0 p1 e0 e1
      · exact do_3 srt own win o p0 p1 p2 e0 e1 e2
      · exact do_4 srt own win o p0 p1 p2 p3 e0 e1 e2 e3
      · exact do_5 srt own win o p0 p1 p2 p3 p4 e0 e1 e2 e3 e4
      · exact absurd hn (by simp)
    · simp [den_fail] at h
  · simp [den_fail] at h
abbrev alG (srt : List Prt → List Prt) : List (Nat × Rx.Spec) := [(9, neS), (11, heS srt), (12, quS srt), (13, leS)]
def apT : Prt := ⟨⟨2, 0, 0, 0, 0, 0, 0, 0⟩, 1⟩
def asT : Ste := ⟨0, 0, Qua.zero, Ck.zero, 0, apT, Prt.zero⟩
def alT (srt : List Prt → List Prt) : Tree Res :=
  .ite (((quF 5 40 [(apT, ⟨asT, 0, 0, 1⟩)] (srt [apT])).length : Int) == 0) (.ite (((quF 15 40 [(apT, ⟨asT, 10, 0, 2⟩)] (srt [apT])).length : Int) == 1) (.ite (((quF 41 40 [(apT, ⟨asT, 10, 0, 2⟩)] (srt [apT])).length : Int) == 0) (.leaf ⟨.bool true, [], []⟩) (.leaf ⟨.fls, [], []⟩)) (.leaf ⟨.fls, [], []⟩)) (.leaf ⟨.fls, [], []⟩)
theorem al_nf (srt : List Prt → List Prt) : Tree.denN (fFn P (specsOf (alG srt)) (loopsOf []) Try.f10 [] []) = Tree.denN (alT srt) := show Tree.denN (fFn P (specsOf (alG srt)) (loopsOf []) Try.f10 [] []) = Tree.denN (alT srt) from by kernel_rfl
def alS : Rx.Spec := fun a b => match a, b with
  | [], [] => .leaf ⟨.tru, [], []⟩
  | _, _ => .fail
theorem al_ok {srt : List Prt → List Prt} (hsrt : ∀ l, srt l = isoL l) : SpecOK P 10 alS := by
  refine specOK_fast (.cons ne_ok (.cons (he_ok (ov_ok hsrt)) (.cons (qu_ok hsrt) (.cons le_ok (.nil P)))) : GammaOK P (alG srt)) hm (Λ := loopsOf []) Try.func10 (by kernel_rfl) (LoopsOK.nil (by kernel_rfl)) ?_
  intro args bs r h
  unfold alS at h
  split at h
  · refine (al_nf srt).trans ?_
    rw [denLf] at h
    cases h
    unfold alT
    rw [hsrt]
    kernel_rfl
  · simp [den_fail] at h
end Go.Proofs.Ytgdalboilghciaa
