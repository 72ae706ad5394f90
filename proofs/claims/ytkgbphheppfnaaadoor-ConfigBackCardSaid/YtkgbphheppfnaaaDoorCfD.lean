/- Layer 17: the laws as functions. The conditions stand in the specifications; the rows meet them. -/
import Derived.Test.YtkgbphheppfnaaaDoorCfC
set_option linter.unusedSimpArgs false
set_option linter.unusedVariables false
set_option linter.unnecessarySimpa false
set_option linter.unusedSectionVars false
set_option maxRecDepth 100000
set_option linter.unusedSimpArgs false
set_option linter.unusedVariables false
namespace Go.Proofs.YtkgbphheppfnaaaDoor
open Go.Rx
def eqP : List Pot → List Pot → Bool
  | [], [] => true
  | x :: xs, y :: ys => Pot.eqB x y && eqP xs ys
  | _, _ => false
theorem eqP_iff : ∀ {xs ys : List Pot}, eqP xs ys = true ↔ xs = ys
  | [], [] => by simp [eqP]
  | [], y :: ys => by simp [eqP]
  | x :: xs, [] => by simp [eqP]
  | x :: xs, y :: ys => by simp [eqP, Pot.eqB_iff, eqP_iff]
theorem sa_round (a b : Cfh) (n m : Nat) (i : Int) (rs qs : List (List V)) : (evRound P (specsOf []) (loopsOf []) 80 [2, 3, 5] [4] (loopAt Tryd.f14 0) [.ptr 0 0 0 0, .ptr 1 0 0 0, .int .i64 i] [.cells (cfV a (.sl 2 0 0 6 n none)), .cells (cfV b (.sl 3 0 0 6 m none)), .rows poK rs, .rows poK qs]).den = Tree.den (Tree.ite (decide (i < (↑n : Int))) (Tree.ite (decide (0 ≤ i) && decide (i < (↑n : Int))) (Tree.ite (decide (0 + i.toNat < rs.length)) (Tree.ite (decide (0 ≤ i) && decide (i < (↑m : Int))) (Tree.ite (decide (0 + i.toNat < qs.length)) (Tree.ite (!(((V.toInt ((rs.getD (0 + i.toNat) []).getD 0 V.any)) == (V.toInt ((qs.getD (0 + i.toNat) []).getD 0 V.any))) && (((V.toInt ((rs.getD (0 + i.toNat) []).getD 1 V.any)) == (V.toInt ((qs.getD (0 + i.toNat) []).getD 1 V.any))) && (((V.toInt ((rs.getD (0 + i.toNat) []).getD 2 V.any)) == (V.toInt ((qs.getD (0 + i.toNat) []).getD 2 V.any))) && (((V.toInt ((rs.getD (0 + i.toNat) []).getD 3 V.any)) == (V.toInt ((qs.getD (0 + i.toNat) []).getD 3 V.any))) && (((V.toInt ((rs.getD (0 + i.toNat) []).getD 4 V.any)) == (V.toInt ((qs.getD (0 + i.toNat) []).getD 4 V.any))) && (((V.toInt ((rs.getD (0 + i.toNat) []).getD 5 V.any)) == (V.toInt ((qs.getD (0 + i.toNat) []).getD 5 V.any))) && true)) && true))))) (Tree.leaf { e := Ex.ret, vs := [V.fls], upd := [none, none, none, none], new := [] }) (Tree.leaf { e := Ex.nrm, vs := [V.ptr 0 0 0 0, V.ptr 1 0 0 0, V.int IntKind.i64 (IntKind.i64.wrap (i + 1))], upd := [none, none, none, none], new := [] })) Tree.fail) Tree.fail) Tree.fail) Tree.fail) (Tree.leaf { e := Ex.exit 0, vs := [V.any], upd := [none, none, none, none], new := [] })) := by
  kernel_rfl
def saR (b : Bool) : LRes := bif b then ⟨.exit 0, [.any], [none, none, none, none], []⟩ else ⟨.ret, [.fls], [none, none, none, none], []⟩
theorem sa_all {a b : Cfh} {n : Nat} {rs qs : List (List V)} (hn : n = rs.length) (hm : n = qs.length) (hb : n ≤ 1000000) : ∀ (rest k : Nat), k + rest = n →
    (loopN P (specsOf []) (loopsOf []) 80 [2, 3, 5] [4] (loopAt Tryd.f14 0) (rest + 1) [.ptr 0 0 0 0, .ptr 1 0 0 0, .int .i64 k] [.cells (cfV a (.sl 2 0 0 6 n none)), .cells (cfV b (.sl 3 0 0 6 n none)), .rows poK rs, .rows poK qs]).den = some (saR (eqP ((pots rs).drop k) ((pots qs).drop k))) := by
  intro rest
  induction rest with
  | zero =>
    intro k hk
    have hx := sa_round a b n n k rs qs
    rw [decide_eq_false (show ¬ (k : Int) < (n : Int) by omega)] at hx
    have e1 : (pots rs).drop k = [] := List.drop_eq_nil_of_le (by rw [pots_len]; omega)
    have e2 : (pots qs).drop k = [] := List.drop_eq_nil_of_le (by rw [pots_len]; omega)
    rw [e1, e2]
    exact loopN_end hx (by show Ex.exit 0 ≠ Ex.nrm; decide)
  | succ rest ih =>
    intro k hk
    have c1 : k < (pots rs).length := by rw [pots_len]; omega
    have c2 : k < (pots qs).length := by rw [pots_len]; omega
    have d1 := List.drop_eq_getElem_cons c1
    have d2 := List.drop_eq_getElem_cons c2
    have x1 := (drop_po (d := potOf []) d1).1
    have x2 := (drop_po (d := potOf []) d2).1
    rw [pots_get] at x1 x2
    have hx := sa_round a b n n k rs qs
    have w6 : IntKind.i64.wrap ((k : Int) + 1) = ((k + 1 : Nat) : Int) := by rw [wrap64_id (by omega) (by omega)]; omega
    rw [decide_eq_true (show (k : Int) < (n : Int) by omega), decide_eq_true (show (0 : Int) ≤ (k : Int) by omega), w6] at hx
    simp only [Nat.zero_add, Int.toNat_natCast] at hx
    rw [decide_eq_true (show k < rs.length by omega), decide_eq_true (show k < qs.length by omega)] at hx
    have hx : _ = (Tree.ite (!(Pot.eqB (potOf (rs.getD k [])) (potOf (qs.getD k []))))
                  (Tree.leaf (⟨Ex.ret, [V.fls], [none, none, none, none], []⟩ : LRes))
                  (Tree.leaf ⟨Ex.nrm, [V.ptr 0 0 0 0, V.ptr 1 0 0 0, V.int IntKind.i64 ((k + 1 : Nat) : Int)], [none, none, none, none], []⟩)).den := hx
    rw [x1, x2] at hx
    rw [d1, d2]
    show _ = some (saR (Pot.eqB _ _ && eqP _ _))
    cases hq : Pot.eqB (pots rs)[k] (pots qs)[k] with
    | false =>
      rw [hq] at hx
      exact loopN_end hx (by show Ex.ret ≠ Ex.nrm; decide)
    | true =>
      rw [hq] at hx
      rw [Bool.true_and]
      have ih' := ih (k + 1) (by omega)
      refine loopN_step (hx.trans rfl) rfl (vals' := [.ptr 0 0 0 0, .ptr 1 0 0 0, .int .i64 ((k + 1 : Nat) : Int)]) (bs' := [.cells (cfV a (.sl 2 0 0 6 n none)), .cells (cfV b (.sl 3 0 0 6 n none)), .rows poK rs, .rows poK qs]) (by kernel_rfl) (by kernel_rfl) (by kernel_rfl) ih' ?_
      cases eqP ((pots rs).drop (k + 1)) ((pots qs).drop (k + 1)) with
      | true => (show (seqAfter _ _ _).den = some _; kernel_rfl)
      | false => (show (seqAfter _ _ _).den = some _; kernel_rfl)
def saF (vals : List V) (bs : List Blk) : Tree LRes := match vals, bs with
  | [.ptr 0 0 0 0, .ptr 1 0 0 0, .int .i64 i], [.cells ds, .cells cs, .rows [.int .i64, .int .i64, .int .i64, .int .i64, .int .i64, .int .i64] rs, .rows [.int .i64, .int .i64, .int .i64, .int .i64, .int .i64, .int .i64] qs] =>
    match Cfh.p ds, Cfh.p cs with
    | some (a, [.sl 2 0 0 6 n none]), some (b, [.sl 3 0 0 6 m none]) => .need (decide (n = rs.length) && decide (m = qs.length) && decide (n = m) && decide (n ≤ 1000000) && decide (i = 0)) (.ite (eqP (pots rs) (pots qs)) (.leaf ⟨.exit 0, [.any], [none, none, none, none], []⟩) (.leaf ⟨.ret, [.fls], [none, none, none, none], []⟩))
    | _, _ => .fail
  | _, _ => .fail
def saL : LSpec := ⟨80, [2, 3, 5], [4], saF⟩
theorem sa_loop : LoopOK P (loopAt Tryd.f14 0) saL := by
  refine loop_ok (GammaOK.nil P) Go.Proofs.YtkgbphheppfnaaaDoor.hm (Λ := loopsOf []) (LoopsOK.nil (by kernel_rfl)) _ ?_
  intro vals bs r h
  simp only [saL, saF] at h
  split at h
  · split at h
    · rename_i i ds cs rs qs _ _ a n b m ha hb
      rw [Cfh.p_eq ha, Cfh.p_eq hb, cfV_eq, cfV_eq]
      rw [den_need, denI, denLf, denLf] at h
      simp only [Bool.and_eq_true, decide_eq_true_eq] at h
      obtain ⟨⟨⟨⟨⟨h1, h2⟩, rfl⟩, h3⟩, rfl⟩, h⟩ := h
      have := sa_all (a := a) (b := b) h1 h2 h3 n 0 (by omega)
      refine ⟨n + 1, this.trans ?_⟩
      rw [List.drop_zero, List.drop_zero]
      unfold saR
      cases he : eqP (pots rs) (pots qs) with
      | true => rw [he] at h; exact h
      | false => rw [he] at h; exact h
    · simp [den_fail] at h
  · simp [den_fail] at h
def saS : Rx.Spec := fun a b => match a with
  | [.agg ds, .agg cs] => match Cfh.p ds, Cfh.p cs with
    | some (x, [.sl 0 0 0 6 n none]), some (y, [.sl 1 0 0 6 m none]) => match b with
      | [.rows [.int .i64, .int .i64, .int .i64, .int .i64, .int .i64, .int .i64] rs, .rows [.int .i64, .int .i64, .int .i64, .int .i64, .int .i64, .int .i64] qs] => .need (decide (n = rs.length) && decide (m = qs.length) && decide (n ≤ 1000000)) (.leaf ⟨.bool (Cfh.eqB x y && eqP (pots rs) (pots qs)), [none, none], []⟩)
      | _ => .fail
    | _, _ => .fail
  | _ => .fail
theorem sa_ok : SpecOK P 14 saS := by
  refine specOK_fast (GammaOK.nil P) hm (Λ := loopsOf [(4, saL)]) Tryd.func14 (by kernel_rfl) (LoopsOK.one (by kernel_rfl) sa_loop) ?_
  intro args bs r h
  unfold saS at h
  split at h
  · split at h
    · split at h
      · rename_i ds cs _ _ x n y m hx hy _ rs qs
        rw [Cfh.p_eq hx, Cfh.p_eq hy]
        rw [den_need, denLf] at h
        simp only [Bool.and_eq_true, decide_eq_true_eq] at h
        obtain ⟨⟨⟨h1, h2⟩, h3⟩, h⟩ := h
        cases h
        rw [show (fFn P (specsOf []) (loopsOf [(4, saL)]) Tryd.f14 [.agg (x.vs ++ [.sl 0 0 0 6 n none]), .agg (y.vs ++ [.sl 1 0 0 6 m none])] [.rows poK rs, .rows poK qs]).denN = Tree.denN (Tree.ite (!(Ck.eqB x.id y.id)) (Tree.leaf { v := V.fls, upd := [none, none], new := [] }) (Tree.ite (x.2 != y.2) (Tree.leaf { v := V.fls, upd := [none, none], new := [] }) (Tree.ite (x.3 != y.3) (Tree.leaf { v := V.fls, upd := [none, none], new := [] }) (Tree.ite (x.4 != y.4) (Tree.leaf { v := V.fls, upd := [none, none], new := [] }) (Tree.ite (!(Qua.eqB x.q y.q)) (Tree.leaf { v := V.fls, upd := [none, none], new := [] }) (Tree.ite (x.6 != y.6) (Tree.leaf { v := V.fls, upd := [none, none], new := [] }) (Tree.ite (!x.7 == y.7) (Tree.leaf { v := V.fls, upd := [none, none], new := [] }) (Tree.ite ((↑n : Int) != (↑m : Int)) (Tree.leaf { v := V.fls, upd := [none, none], new := [] }) (Tree.ite (decide (n = rs.length) && decide (m = qs.length) && decide (n = m) && decide (n ≤ 1000000) && true) (Tree.ite (eqP (pots rs) (pots qs)) (Tree.leaf { v := V.tru, upd := [none, none], new := [] }) (Tree.leaf { v := V.fls, upd := [none, none], new := [] })) Tree.fail))))))))) from by kernel_rfl]
        have hnm : ((n : Int) != (m : Int)) = !decide (n = m) := by
          by_cases h : n = m
          · subst h; simp
          · rw [decide_eq_false h]; simp; omega
        have hz : decide (n = m) = false → eqP (pots rs) (pots qs) = false := fun hd => by
          refine Bool.eq_false_iff.2 fun he => of_decide_eq_false hd ?_
          have := congrArg List.length (eqP_iff.1 he)
          rw [pots_len, pots_len] at this; omega
        unfold Cfh.eqB
        rw [hnm, decide_eq_true h1, decide_eq_true h2, decide_eq_true h3]
        show (Tree.ite (!x.id.eqB y.id) _ (Tree.ite (!(x.dom == y.dom)) _ (Tree.ite (!(x.p1 == y.p1)) _ (Tree.ite (!(x.p2 == y.p2)) _ (Tree.ite (!x.q.eqB y.q) _ (Tree.ite (!(x.ppb == y.ppb)) _ _)))))).denN = _
        cases x.id.eqB y.id with
        | false => rfl
        | true =>
        cases x.dom == y.dom with
        | false => rfl
        | true =>
        cases x.p1 == y.p1 with
        | false => rfl
        | true =>
        cases x.p2 == y.p2 with
        | false => rfl
        | true =>
        cases x.q.eqB y.q with
        | false => rfl
        | true =>
        cases x.ppb == y.ppb with
        | false => rfl
        | true =>
        cases x.sl == y.sl with
        | false => rfl
        | true =>
        cases hd : decide (n = m) with
        | false => rw [hz hd]; rfl
        | true =>
        cases eqP (pots rs) (pots qs) with
        | false => rfl
        | true => rfl
      · simp [den_fail] at h
    · simp [den_fail] at h
  · simp [den_fail] at h
theorem pwA_round (c : Cfh) (n m : Nat) (N k : Int) (rs qs : List (List V)) : (evRound P (specsOf []) (loopsOf []) 44 [2, 3, 22, 23, 24] [] (loopAt Tryd.f15 0) [.ptr 0 0 0 0, .ptr 1 0 0 0, .sl 2 0 0 6 n none, .int .i64 N, .int .i64 k] [.cells zcV, .cells (cfV c (.sl 3 0 0 6 m none)), .rows poK rs, .rows poK qs]).den = Tree.den (Tree.ite (decide (k < N)) (Tree.ite (decide (0 ≤ k) && decide (k < (↑n : Int))) (Tree.ite (decide (0 + k.toNat < rs.length)) (Tree.ite (decide (0 + m ≤ qs.length) && true) (Tree.ite (decide ((List.take m (List.drop 0 qs) ++ [[V.int IntKind.i64 (V.toInt ((rs.getD (0 + k.toNat) []).getD 0 V.any)), V.int IntKind.i64 (V.toInt ((rs.getD (0 + k.toNat) []).getD 1 V.any)), V.int IntKind.i64 (V.toInt ((rs.getD (0 + k.toNat) []).getD 2 V.any)), V.int IntKind.i64 (V.toInt ((rs.getD (0 + k.toNat) []).getD 3 V.any)), V.int IntKind.i64 (V.toInt ((rs.getD (0 + k.toNat) []).getD 4 V.any)), V.int IntKind.i64 (V.toInt ((rs.getD (0 + k.toNat) []).getD 5 V.any))]]).length * 48 ≤ 140737488355328)) (Tree.leaf { e := Ex.nrm, vs := [V.ptr 0 0 0 0, V.ptr 1 0 0 0, V.sl 2 0 0 6 n none, V.int IntKind.i64 N, V.int IntKind.i64 (IntKind.i64.wrap (k + 1))], upd := [none, some (some (Body.cells [V.int IntKind.u8 c.id.1, V.int IntKind.u8 c.id.2, V.int IntKind.u8 c.id.3, V.int IntKind.u8 c.id.4, V.int IntKind.u8 c.id.5, V.int IntKind.u8 c.id.6, V.int IntKind.u8 c.id.7, V.int IntKind.u8 c.id.8, V.int IntKind.i64 c.2, V.int IntKind.i64 c.3, V.int IntKind.i64 c.4, V.int IntKind.i64 c.q.1, V.int IntKind.i64 c.q.2, V.int IntKind.i64 c.q.3, V.int IntKind.i64 c.6, V.bool c.7, V.sl 4 0 0 6 (List.take m (List.drop 0 qs) ++ [[V.int IntKind.i64 (V.toInt ((rs.getD (0 + k.toNat) []).getD 0 V.any)), V.int IntKind.i64 (V.toInt ((rs.getD (0 + k.toNat) []).getD 1 V.any)), V.int IntKind.i64 (V.toInt ((rs.getD (0 + k.toNat) []).getD 2 V.any)), V.int IntKind.i64 (V.toInt ((rs.getD (0 + k.toNat) []).getD 3 V.any)), V.int IntKind.i64 (V.toInt ((rs.getD (0 + k.toNat) []).getD 4 V.any)), V.int IntKind.i64 (V.toInt ((rs.getD (0 + k.toNat) []).getD 5 V.any))]]).length none])), none, some none], new := [Body.rows [K.int IntKind.i64, K.int IntKind.i64, K.int IntKind.i64, K.int IntKind.i64, K.int IntKind.i64, K.int IntKind.i64] (List.take m (List.drop 0 qs) ++ [[V.int IntKind.i64 (V.toInt ((rs.getD (0 + k.toNat) []).getD 0 V.any)), V.int IntKind.i64 (V.toInt ((rs.getD (0 + k.toNat) []).getD 1 V.any)), V.int IntKind.i64 (V.toInt ((rs.getD (0 + k.toNat) []).getD 2 V.any)), V.int IntKind.i64 (V.toInt ((rs.getD (0 + k.toNat) []).getD 3 V.any)), V.int IntKind.i64 (V.toInt ((rs.getD (0 + k.toNat) []).getD 4 V.any)), V.int IntKind.i64 (V.toInt ((rs.getD (0 + k.toNat) []).getD 5 V.any))]])] }) Tree.fail) Tree.fail) Tree.fail) Tree.fail) (Tree.leaf { e := Ex.exit 0, vs := [], upd := [none, none, none, none], new := [] })) := by
  kernel_rfl
theorem pwN_round (c : Cfh) (n : Nat) (N k : Int) (rs : List (List V)) : (evRound P (specsOf []) (loopsOf []) 44 [2, 3, 22, 23, 24] [] (loopAt Tryd.f15 0) [.ptr 0 0 0 0, .ptr 1 0 0 0, .sl 2 0 0 6 n none, .int .i64 N, .int .i64 k] [.cells zcV, .cells (cfV c .nils), .rows poK rs]).den = Tree.den (Tree.ite (decide (k < N)) (Tree.ite (decide (0 ≤ k) && decide (k < (↑n : Int))) (Tree.ite (decide (0 + k.toNat < rs.length)) (Tree.leaf { e := Ex.nrm, vs := [V.ptr 0 0 0 0, V.ptr 1 0 0 0, V.sl 2 0 0 6 n none, V.int IntKind.i64 N, V.int IntKind.i64 (IntKind.i64.wrap (k + 1))], upd := [none, some (some (Body.cells [V.int IntKind.u8 c.id.1, V.int IntKind.u8 c.id.2, V.int IntKind.u8 c.id.3, V.int IntKind.u8 c.id.4, V.int IntKind.u8 c.id.5, V.int IntKind.u8 c.id.6, V.int IntKind.u8 c.id.7, V.int IntKind.u8 c.id.8, V.int IntKind.i64 c.2, V.int IntKind.i64 c.3, V.int IntKind.i64 c.4, V.int IntKind.i64 c.q.1, V.int IntKind.i64 c.q.2, V.int IntKind.i64 c.q.3, V.int IntKind.i64 c.6, V.bool c.7, V.sl 3 0 0 6 1 none])), none], new := [Body.rows [K.int IntKind.i64, K.int IntKind.i64, K.int IntKind.i64, K.int IntKind.i64, K.int IntKind.i64, K.int IntKind.i64] [[V.int IntKind.i64 (V.toInt ((rs.getD (0 + k.toNat) []).getD 0 V.any)), V.int IntKind.i64 (V.toInt ((rs.getD (0 + k.toNat) []).getD 1 V.any)), V.int IntKind.i64 (V.toInt ((rs.getD (0 + k.toNat) []).getD 2 V.any)), V.int IntKind.i64 (V.toInt ((rs.getD (0 + k.toNat) []).getD 3 V.any)), V.int IntKind.i64 (V.toInt ((rs.getD (0 + k.toNat) []).getD 4 V.any)), V.int IntKind.i64 (V.toInt ((rs.getD (0 + k.toNat) []).getD 5 V.any))]]] }) Tree.fail) Tree.fail) (Tree.leaf { e := Ex.exit 0, vs := [], upd := [none, none, none], new := [] })) := by
  kernel_rfl
def pwR (c : Cfh) (qs : List (List V)) : List Pot → LRes
  | [] => ⟨.exit 0, [], [none, none, none, none], []⟩
  | x :: xs => ⟨.exit 0, [], [none, some (some (.cells (cfV c (.sl 4 0 0 6 (qs ++ poRows (x :: xs)).length none)))), none, some none], [.rows poK (qs ++ poRows (x :: xs))]⟩
theorem pwA_all {n : Nat} {c : Cfh} {rs : List (List V)} (hn : n = rs.length) (hn2 : n ≤ 1000) : ∀ (rest : List Pot) (k : Nat) (qs : List (List V)), (pots rs).drop k = rest → k + rest.length = n → qs.length = k →
    (loopN P (specsOf []) (loopsOf []) 44 [2, 3, 22, 23, 24] [] (loopAt Tryd.f15 0) (rest.length + 1) [.ptr 0 0 0 0, .ptr 1 0 0 0, .sl 2 0 0 6 n none, .int .i64 n, .int .i64 k] [.cells zcV, .cells (cfV c (.sl 3 0 0 6 qs.length none)), .rows poK rs, .rows poK qs]).den = some (pwR c qs rest) := by
  intro rest
  induction rest with
  | nil =>
    intro k qs hr hk hq
    have hx := pwA_round c n qs.length n k rs qs
    rw [decide_eq_false (show ¬ (k : Int) < (n : Int) by simp at hk; omega)] at hx
    exact loopN_end hx (by show Ex.exit 0 ≠ Ex.nrm; decide)
  | cons x xs ih =>
    intro k qs hr hk hq
    simp only [List.length_cons] at hk
    obtain ⟨hx, hd⟩ := drop_po (d := potOf []) hr
    rw [pots_get] at hx
    have e0 : V.toInt ((rs.getD k []).getD 0 V.any) = x.ev := by rw [← hx]; rfl
    have e1 : V.toInt ((rs.getD k []).getD 1 V.any) = x.of_ := by rw [← hx]; rfl
    have e2 : V.toInt ((rs.getD k []).getD 2 V.any) = x.ask := by rw [← hx]; rfl
    have e3 : V.toInt ((rs.getD k []).getD 3 V.any) = x.pa.mn := by rw [← hx]; rfl
    have e4 : V.toInt ((rs.getD k []).getD 4 V.any) = x.pa.mx := by rw [← hx]; rfl
    have e5 : V.toInt ((rs.getD k []).getD 5 V.any) = x.pa.gr := by rw [← hx]; rfl
    have st := pwA_round c n qs.length n k rs qs
    have w6 : IntKind.i64.wrap ((k : Int) + 1) = ((k + 1 : Nat) : Int) := by rw [wrap64_id (by omega) (by omega)]; omega
    simp only [Nat.zero_add, Int.toNat_natCast, e0, e1, e2, e3, e4, e5, w6, List.drop_zero, List.take_length] at st
    have hl : (qs ++ [poRow x]).length * 48 ≤ 140737488355328 := by simp; omega
    have st' : (evRound P (specsOf []) (loopsOf []) 44 [2, 3, 22, 23, 24] [] (loopAt Tryd.f15 0) [.ptr 0 0 0 0, .ptr 1 0 0 0, .sl 2 0 0 6 n none, .int .i64 n, .int .i64 k] [.cells zcV, .cells (cfV c (.sl 3 0 0 6 qs.length none)), .rows poK rs, .rows poK qs]).den =
        some ⟨.nrm, [.ptr 0 0 0 0, .ptr 1 0 0 0, .sl 2 0 0 6 n none, .int .i64 n, .int .i64 ((k + 1 : Nat) : Int)], [none, some (some (.cells (cfV c (.sl 4 0 0 6 (qs ++ [poRow x]).length none)))), none, some none], [.rows poK (qs ++ [poRow x])]⟩ := by
      refine st.trans ?_
      rw [decide_eq_true (show (k : Int) < (n : Int) by omega), decide_eq_true (show (0 : Int) ≤ k by omega), decide_eq_true (show k < rs.length by omega), decide_eq_true (Nat.le_refl qs.length)]
      have hl' : (qs ++ [[V.int IntKind.i64 x.ev, V.int IntKind.i64 x.of_, V.int IntKind.i64 x.ask, V.int IntKind.i64 x.pa.mn, V.int IntKind.i64 x.pa.mx, V.int IntKind.i64 x.pa.gr]]).length * 48 ≤ 140737488355328 := hl
      rw [decide_eq_true hl']
      rfl
    clear st
    have ih' := ih (k + 1) (qs ++ [poRow x]) hd (by omega) (by simp; omega)
    refine loopN_step st' rfl (vals' := [.ptr 0 0 0 0, .ptr 1 0 0 0, .sl 2 0 0 6 n none, .int .i64 n, .int .i64 ((k + 1 : Nat) : Int)]) (bs' := [.cells zcV, .cells (cfV c (.sl 3 0 0 6 (qs ++ [poRow x]).length none)), .rows poK rs, .rows poK (qs ++ [poRow x])]) (by kernel_rfl) (by kernel_rfl) (by kernel_rfl) ih' ?_
    cases xs with
    | nil =>
      rw [pwR, pwR, show qs ++ poRows [x] = qs ++ [poRow x] from rfl]
      (show (seqAfter _ _ _).den = some _; kernel_rfl)
    | cons y ys =>
      rw [pwR, pwR, show qs ++ poRows (x :: y :: ys) = (qs ++ [poRow x]) ++ poRows (y :: ys) by simp [poRows]]
      (show (seqAfter _ _ _).den = some _; kernel_rfl)
def pwF (vals : List V) (bs : List Blk) : Tree LRes := match vals, bs with
  | [.ptr 0 0 0 0, .ptr 1 0 0 0, .sl 2 0 0 6 n none, .int .i64 N, .int .i64 k], [.cells [.int .u8 0, .int .u8 0, .int .u8 0, .int .u8 0, .int .u8 0, .int .u8 0, .int .u8 0, .int .u8 0, .int .i64 0, .int .i64 0, .int .i64 0, .int .i64 0, .int .i64 0, .int .i64 0, .int .i64 0, .fls, .nils], .cells cs, .rows [.int .i64, .int .i64, .int .i64, .int .i64, .int .i64, .int .i64] rs] =>
    match Cfh.p cs with
    | some (c, [.nils]) => .need (decide (n = rs.length) && decide (N = n) && decide (k = 0) && decide (n ≤ 1000)) (.ite (decide (n = 0)) (.leaf ⟨.exit 0, [], [none, none, none], []⟩) (.leaf ⟨.exit 0, [], [none, some (some (.cells (cfV c (.sl 3 0 0 6 n none)))), none], [.rows [.int .i64, .int .i64, .int .i64, .int .i64, .int .i64, .int .i64] (poRows (pots rs))]⟩))
    | _ => .fail
  | _, _ => .fail
def pwL : LSpec := ⟨44, [2, 3, 22, 23, 24], [], pwF⟩
theorem pw_loop : LoopOK P (loopAt Tryd.f15 0) pwL := by
  refine loop_ok (GammaOK.nil P) Go.Proofs.YtkgbphheppfnaaaDoor.hm (Λ := loopsOf []) (LoopsOK.nil (by kernel_rfl)) _ ?_
  intro vals bs r h
  simp only [pwL, pwF] at h
  split at h
  · split at h
    · rename_i n N k cs rs _ c hc
      rw [Cfh.p_eq hc, cfV_eq]
      rw [den_need, denI, denLf, denLf] at h
      simp only [Bool.and_eq_true, decide_eq_true_eq] at h
      obtain ⟨⟨⟨⟨h1, rfl⟩, rfl⟩, h3⟩, h⟩ := h
      have hpl := pots_len rs
      refine ⟨(pots rs).length + 1, ?_⟩
      by_cases h0 : n = 0
      · rw [if_pos h0] at h; cases h
        have hz : (pots rs).length + 1 = 0 + 1 := by omega
        rw [hz]
        have hx := pwN_round c n n 0 rs
        rw [decide_eq_false (show ¬ (0 : Int) < (n : Int) by omega)] at hx
        exact loopN_end hx (by show Ex.exit 0 ≠ Ex.nrm; decide)
      · rw [if_neg h0] at h; cases h
        cases hls : pots rs with
        | nil => rw [hls] at hpl; simp at hpl; omega
        | cons x xs =>
        obtain ⟨hx, hd⟩ := drop_po (ls := pots rs) (k := 0) (d := potOf []) hls
        rw [pots_get] at hx
        rw [hls] at hpl
        simp only [List.length_cons] at hpl
        have e0 : V.toInt ((rs.getD 0 []).getD 0 V.any) = x.ev := by rw [← hx]; rfl
        have e1 : V.toInt ((rs.getD 0 []).getD 1 V.any) = x.of_ := by rw [← hx]; rfl
        have e2 : V.toInt ((rs.getD 0 []).getD 2 V.any) = x.ask := by rw [← hx]; rfl
        have e3 : V.toInt ((rs.getD 0 []).getD 3 V.any) = x.pa.mn := by rw [← hx]; rfl
        have e4 : V.toInt ((rs.getD 0 []).getD 4 V.any) = x.pa.mx := by rw [← hx]; rfl
        have e5 : V.toInt ((rs.getD 0 []).getD 5 V.any) = x.pa.gr := by rw [← hx]; rfl
        have st := pwN_round c n n 0 rs
        have w6 : IntKind.i64.wrap ((0 : Int) + 1) = ((1 : Nat) : Int) := by rw [wrap64_id (by omega) (by omega)]; omega
        simp only [Nat.zero_add, Int.toNat_zero, e0, e1, e2, e3, e4, e5, w6] at st
        have st' : (evRound P (specsOf []) (loopsOf []) 44 [2, 3, 22, 23, 24] [] (loopAt Tryd.f15 0) [.ptr 0 0 0 0, .ptr 1 0 0 0, .sl 2 0 0 6 n none, .int .i64 n, .int .i64 0] [.cells zcV, .cells (cfV c .nils), .rows poK rs]).den =
            some ⟨.nrm, [.ptr 0 0 0 0, .ptr 1 0 0 0, .sl 2 0 0 6 n none, .int .i64 n, .int .i64 ((1 : Nat) : Int)], [none, some (some (.cells (cfV c (.sl 3 0 0 6 1 none)))), none], [.rows poK [poRow x]]⟩ := by
          refine st.trans ?_
          rw [decide_eq_true (show (0 : Int) < (n : Int) by omega), decide_eq_true (show 0 < rs.length by omega)]
          rfl
        clear st
        have ih' := pwA_all (c := c) h1 h3 xs 1 [poRow x] hd (by omega) rfl
        refine loopN_step st' rfl (vals' := [.ptr 0 0 0 0, .ptr 1 0 0 0, .sl 2 0 0 6 n none, .int .i64 n, .int .i64 ((1 : Nat) : Int)]) (bs' := [.cells zcV, .cells (cfV c (.sl 3 0 0 6 [poRow x].length none)), .rows poK rs, .rows poK [poRow x]]) (by kernel_rfl) (by kernel_rfl) (by kernel_rfl) ih' ?_
        have hn' : n = (poRows (x :: xs)).length := by rw [poRows_len]; simp; omega
        cases xs with
        | nil =>
          have : n = 1 := hn'
          rw [this]
          (show (seqAfter _ _ _).den = some _; kernel_rfl)
        | cons y ys =>
          rw [show V.sl 3 0 0 6 n none = V.sl 3 0 0 6 (poRows (x :: y :: ys)).length none by rw [← hn'], pwR, show [poRow x] ++ poRows (y :: ys) = poRows (x :: y :: ys) from rfl]
          (show (seqAfter _ _ _).den = some _; kernel_rfl)
    · simp [den_fail] at h
  · simp [den_fail] at h
def pwS : Rx.Spec := fun a b => match a with
  | [.agg cs] => match Cfh.p cs with
    | some (c, [.sl 0 0 0 6 n none]) => match b with
      | [.rows [.int .i64, .int .i64, .int .i64, .int .i64, .int .i64, .int .i64] rs] => .need (decide (n = rs.length) && decide (n ≤ 1000)) (.ite (decide (n = 0)) (.leaf ⟨.agg (c.vs ++ [.nils]), [none], []⟩) (.leaf ⟨.agg (c.vs ++ [.sl 1 0 0 6 n none]), [none], [.rows [.int .i64, .int .i64, .int .i64, .int .i64, .int .i64, .int .i64] (poRows (pots rs))]⟩))
      | _ => .fail
    | _ => .fail
  | _ => .fail
theorem pw_ok : SpecOK P 15 pwS := by
  refine specOK_fast (GammaOK.nil P) hm (Λ := loopsOf [(3, pwL)]) Tryd.func15 (by kernel_rfl) (LoopsOK.one (by kernel_rfl) pw_loop) ?_
  intro args bs r h
  unfold pwS at h
  split at h
  · split at h
    · split at h
      · rename_i cs _ c n hc _ rs
        rw [Cfh.p_eq hc]
        rw [den_need, denI, denLf, denLf] at h
        simp only [Bool.and_eq_true, decide_eq_true_eq] at h
        obtain ⟨⟨h1, h2⟩, h⟩ := h
        rw [show (fFn P (specsOf []) (loopsOf [(3, pwL)]) Tryd.f15 [.agg (c.vs ++ [.sl 0 0 0 6 n none])] [.rows poK rs]).denN = Tree.denN (Tree.ite (decide (n = rs.length) && decide ((↑n : Int) = (↑n : Int)) && true && decide (n ≤ 1000)) (Tree.ite (decide (n = 0)) (Tree.leaf { v := V.agg [V.int IntKind.u8 c.id.1, V.int IntKind.u8 c.id.2, V.int IntKind.u8 c.id.3, V.int IntKind.u8 c.id.4, V.int IntKind.u8 c.id.5, V.int IntKind.u8 c.id.6, V.int IntKind.u8 c.id.7, V.int IntKind.u8 c.id.8, V.int IntKind.i64 c.2, V.int IntKind.i64 c.3, V.int IntKind.i64 c.4, V.int IntKind.i64 c.q.1, V.int IntKind.i64 c.q.2, V.int IntKind.i64 c.q.3, V.int IntKind.i64 c.6, V.bool c.7, V.nils], upd := [none], new := [] }) (Tree.leaf { v := V.agg [V.int IntKind.u8 c.id.1, V.int IntKind.u8 c.id.2, V.int IntKind.u8 c.id.3, V.int IntKind.u8 c.id.4, V.int IntKind.u8 c.id.5, V.int IntKind.u8 c.id.6, V.int IntKind.u8 c.id.7, V.int IntKind.u8 c.id.8, V.int IntKind.i64 c.2, V.int IntKind.i64 c.3, V.int IntKind.i64 c.4, V.int IntKind.i64 c.q.1, V.int IntKind.i64 c.q.2, V.int IntKind.i64 c.q.3, V.int IntKind.i64 c.6, V.bool c.7, V.sl 1 0 0 6 n none], upd := [none], new := [Body.rows [K.int IntKind.i64, K.int IntKind.i64, K.int IntKind.i64, K.int IntKind.i64, K.int IntKind.i64, K.int IntKind.i64] (poRows (pots rs))] })) Tree.fail) from by kernel_rfl]
        simp only [denN_ite, denN_leaf, denN_fail, decide_eq_true h1, decide_eq_true h2, decide_true]
        by_cases h0 : n = 0
        · rw [if_pos h0] at h; cases h
          rw [decide_eq_true h0]; rfl
        · rw [if_neg h0] at h; cases h
          rw [decide_eq_false h0]; rfl
      · simp [den_fail] at h
    · simp [den_fail] at h
  · simp [den_fail] at h
end Go.Proofs.YtkgbphheppfnaaaDoor

set_option maxRecDepth 100000
set_option linter.unusedSimpArgs false
set_option linter.unusedVariables false
namespace Go.Proofs.YtkgbphheppfnaaaDoor
open Go.Rx
def smpB : ByteArray := ⟨#[99, 108, 111, 99, 107, 32, 48, 48, 48, 48, 48, 48, 48, 48, 48, 48, 48, 48, 48, 48, 48, 49, 10, 100, 111, 109, 97, 105, 110, 32, 48, 10, 112, 114, 105, 111, 114, 105, 116, 121, 32, 49, 50, 56, 32, 49, 50, 56, 10, 99, 108, 97, 115, 115, 32, 50, 52, 56, 10, 97, 99, 99, 117, 114, 97, 99, 121, 32, 51, 51, 10, 118, 97, 114, 105, 97, 110, 99, 101, 32, 53, 10, 112, 112, 98, 32, 49, 48, 48, 48, 10, 112, 111, 114, 116, 32, 49, 48, 48, 48, 48, 48, 48, 32, 51, 32, 49, 48, 48, 48, 48, 48, 48, 32, 49, 48, 32, 50, 48, 32, 48, 10]⟩
def smS : Rx.Spec := fun a b => match a, b with
  | [], [] => .leaf ⟨.str smpB, [], []⟩
  | _, _ => .fail
theorem sm_ok : SpecOK P 16 smS := by
  refine specOK_fast (GammaOK.nil P) hm (Λ := loopsOf []) Tryd.func16 (by kernel_rfl) (LoopsOK.nil (by kernel_rfl)) ?_
  intro args bs r h
  unfold smS at h
  split at h
  · rw [denLf] at h; cases h
    kernel_rfl
  · simp [den_fail] at h
noncomputable abbrev avG : List (Nat × Rx.Spec) := [(16, smS), (13, psS), (8, Rx.Spec.N chS)]
theorem avG_ok : GammaOK P avG := .cons sm_ok (.cons ps_ok (.cons ck_ok.N (.nil P)))
def avS : Rx.Spec := fun a b => match a, b with
  | [], [] => .leaf ⟨.tru, [], []⟩
  | _, _ => .fail
theorem av_ok : SpecOK P 7 avS := by
  refine specOK_fast avG_ok hm (Λ := loopsOf []) Tryd.func7 (by kernel_rfl) (LoopsOK.nil (by kernel_rfl)) ?_
  intro args bs r h
  unfold avS at h
  split at h
  · rw [denLf] at h; cases h
    rw [show (fFn P (specsOf avG) (loopsOf []) Tryd.f7 [] []).denN = Tree.denN (Tree.leaf { v := V.bool true, upd := [], new := [] }) from by kernel_rfl]
    rfl
  · simp [den_fail] at h
end Go.Proofs.YtkgbphheppfnaaaDoor

set_option maxRecDepth 100000
set_option linter.unusedSimpArgs false
set_option linter.unusedVariables false
namespace Go.Proofs.YtkgbphheppfnaaaDoor
open Go.Rx
abbrev ccG : List (Nat × Rx.Spec) := [(7, avS), (9, owS), (8, chS), (10, rcS), (11, prtS), (12, rprS)]
theorem ccG_ok : GammaOK P ccG := .cons av_ok (.cons ow_ok (.cons ck_ok (.cons rck_ok (.cons prt_ok (.cons rpr_ok (.nil P))))))
def ccS : Rx.Spec := fun a b => match a with
  | [.agg cs] => match Cfh.p cs with
    | some (c, [.sl 0 0 0 6 n none]) => match b with
      | [.rows [.int .i64, .int .i64, .int .i64, .int .i64, .int .i64, .int .i64] rs] => .need (decide (n = rs.length) && (cfI c && (pots rs).all potI)) (.leaf ⟨.bool true, [none], []⟩)
      | _ => .fail
    | _ => .fail
  | _ => .fail
theorem cc_ok : SpecOK P 3 ccS := by
  refine specOK_fast ccG_ok hm (Λ := loopsOf []) Tryd.func3 (by kernel_rfl) (LoopsOK.nil (by kernel_rfl)) ?_
  intro args bs r h
  unfold ccS at h
  split at h
  · split at h
    · split at h
      · rename_i cs _ c n hc _ rs
        rw [Cfh.p_eq hc]
        rw [den_need, denLf] at h
        simp only [Bool.and_eq_true, decide_eq_true_eq] at h
        obtain ⟨⟨h1, h2, h3⟩, h⟩ := h
        cases h
        rw [show (fFn P (specsOf ccG) (loopsOf []) Tryd.f3 [.agg (c.vs ++ [.sl 0 0 0 6 n none])] [.rows poK rs]).denN = Tree.denN (Tree.ite (decide ((↑n : Int) > 100)) (Tree.leaf { v := V.tru, upd := [none], new := [] }) (Tree.ite (decide (n = rs.length) && decide (n ≤ 1000)) (Tree.ite (decide (n = 0)) (Tree.ite (decide (n = rs.length) && decide (n ≤ 100000000000000)) (Tree.ite (sEq (chkW c 0 []) (chkW c n (pots rs))) (Tree.ite (decide (n = rs.length) && decide (n ≤ 1000)) (Tree.ite (decide (n = 0)) (Tree.ite (cfI c) (Tree.ite (decide (n = rs.length) && decide (n ≤ 1000) && cfI c && (pots rs).all potI) (Tree.leaf { v := V.bool (sEq (bytesOf (prL c [])) (bytesOf (prL c (pots rs)))), upd := [none], new := [] }) Tree.fail) Tree.fail) (Tree.ite (decide (n = (poRows (pots rs)).length) && decide (n ≤ 1000) && cfI c && (pots (poRows (pots rs))).all potI) (Tree.ite (decide (n = rs.length) && decide (n ≤ 1000) && cfI c && (pots rs).all potI) (Tree.leaf { v := V.bool (sEq (bytesOf (prL c (pots (poRows (pots rs))))) (bytesOf (prL c (pots rs)))), upd := [none], new := [] }) Tree.fail) Tree.fail)) Tree.fail) (Tree.leaf { v := V.fls, upd := [none], new := [] })) Tree.fail) (Tree.ite (decide (n = (poRows (pots rs)).length)) (Tree.ite (decide (n = rs.length) && decide (n ≤ 100000000000000)) (Tree.ite (sEq (chkW c n (pots (poRows (pots rs)))) (chkW c n (pots rs))) (Tree.ite (decide (n = rs.length) && decide (n ≤ 1000)) (Tree.ite (decide (n = 0)) (Tree.ite (cfI c) (Tree.ite (decide (n = rs.length) && decide (n ≤ 1000) && cfI c && (pots rs).all potI) (Tree.leaf { v := V.bool (sEq (bytesOf (prL c [])) (bytesOf (prL c (pots rs)))), upd := [none], new := [] }) Tree.fail) Tree.fail) (Tree.ite (decide (n = (poRows (pots rs)).length) && decide (n ≤ 1000) && cfI c && (pots (poRows (pots rs))).all potI) (Tree.ite (decide (n = rs.length) && decide (n ≤ 1000) && cfI c && (pots rs).all potI) (Tree.leaf { v := V.bool (sEq (bytesOf (prL c (pots (poRows (pots rs))))) (bytesOf (prL c (pots rs)))), upd := [none], new := [] }) Tree.fail) Tree.fail)) Tree.fail) (Tree.leaf { v := V.fls, upd := [none], new := [] })) Tree.fail) Tree.fail)) Tree.fail)) from by kernel_rfl]
        rw [pots_rows, poRows_len, pots_len, h2, h3, ← h1, decide_eq_true rfl]
        by_cases h100 : (n : Int) > 100
        · rw [decide_eq_true h100]; rfl
        · rw [decide_eq_false h100, decide_eq_true (show n ≤ 1000 by omega), decide_eq_true (show n ≤ 100000000000000 by omega)]
          by_cases h0 : n = 0
          · have hp : pots rs = [] := List.eq_nil_of_length_eq_zero (by rw [pots_len]; omega)
            rw [hp, decide_eq_true h0, h0, sEq_iff.2 rfl, sEq_iff.2 rfl]; rfl
          · rw [decide_eq_false h0, sEq_iff.2 (rfl : chkW c n (pots rs) = _), sEq_iff.2 (rfl : bytesOf (prL c (pots rs)) = _)]; rfl
      · simp [den_fail] at h
    · simp [den_fail] at h
  · simp [den_fail] at h
end Go.Proofs.YtkgbphheppfnaaaDoor

set_option maxRecDepth 100000
set_option linter.unusedSimpArgs false
set_option linter.unusedVariables false
namespace Go.Proofs.YtkgbphheppfnaaaDoor
open Go.Rx
/-- What is read, not looked into. -/
def hidC (s : ByteArray) : Cfh := match psA s with | true => psC s | false => psC s
theorem hidC_eq (s : ByteArray) : hidC s = psC s := by unfold hidC; cases psA s <;> rfl
def psS2 : Rx.Spec := fun a b => match a, b with
  | [.str s], [] => .need (decide (s.size < 4294967280) && gdL (lnL s) (lnN s) 0) (.ite (psA s)
      (.ite (psK s) (.leaf ⟨.tup [.agg (cfV (hidC s) (.sl 0 0 0 6 (psP s).length none)), .int .i64 0, .int .i64 0], [], [.rows [.int .i64, .int .i64, .int .i64, .int .i64, .int .i64, .int .i64] (poRows (psP s))]⟩)
        (.leaf ⟨.tup [.agg (cfV Cfh.zero .nils), .int .i64 0, .int .i64 170], [], []⟩))
      (.leaf ⟨.tup [.agg (cfV Cfh.zero .nils), .int .i64 (psT s), .int .i64 170], [], []⟩))
  | _, _ => .fail
theorem ps2_ok : SpecOK P 13 psS2 := by
  have : psS2 = psS := by
    funext a b
    unfold psS2
    split
    · simp only [hidC_eq]; rfl
    · rename_i hno
      unfold psS
      split
      · rename_i s
        exact absurd rfl (hno s rfl)
      · rfl
  rw [this]; exact ps_ok
noncomputable abbrev cbG : List (Nat × Rx.Spec) := [(7, avS), (9, owS), (8, Rx.Spec.N chS), (11, Rx.Spec.N prtS), (13, psS2), (15, pwS), (14, saS)]
theorem cbG_ok : GammaOK P cbG := .cons av_ok (.cons ow_ok (.cons ck_ok.N (.cons prt_ok.N (.cons ps2_ok (.cons pw_ok (.cons sa_ok (.nil P)))))))
def cbS : Rx.Spec := fun a b => match a with
  | [.agg cs, .str s] => match Cfh.p cs with
    | some (c, [.sl 0 0 0 6 n none]) => match b with
      | [.rows [.int .i64, .int .i64, .int .i64, .int .i64, .int .i64, .int .i64] rs] => .need (decide (n = rs.length) && (cfI c && (pots rs).all potI)) (.leaf ⟨.bool true, [none], []⟩)
      | _ => .fail
    | _ => .fail
  | _ => .fail
theorem cb_ok : SpecOK P 4 cbS := by
  refine specOK_fast cbG_ok hm (Λ := loopsOf []) Tryd.func4 (by kernel_rfl) (LoopsOK.nil (by kernel_rfl)) ?_
  intro args bs r h
  unfold cbS at h
  split at h
  · split at h
    · split at h
      · rename_i cs s _ c n hc _ rs
        rw [Cfh.p_eq hc]
        rw [den_need, denLf] at h
        simp only [Bool.and_eq_true, decide_eq_true_eq] at h
        obtain ⟨⟨h1, h2, h3⟩, h⟩ := h
        cases h
        rw [show (fFn P (specsOf cbG) (loopsOf []) Tryd.f4 [.agg (c.vs ++ [.sl 0 0 0 6 n none]), .str s] [.rows poK rs]).denN = Tree.denN (Tree.ite (decide ((↑n : Int) > 100)) (Tree.leaf { v := V.tru, upd := [none], new := [] }) (Tree.ite (decide ((↑s.size : Int) > 20000)) (Tree.leaf { v := V.tru, upd := [none], new := [] }) (Tree.ite (decide (n = rs.length) && decide (n ≤ 1000)) (Tree.ite (decide (n = 0)) (Tree.ite (cfI c) (Tree.ite (decide ((bytesOf (prL c [])).size < 4294967280) && gdL (lnL (bytesOf (prL c []))) (lnN (bytesOf (prL c []))) 0) (Tree.ite (psA (bytesOf (prL c []))) (Tree.ite (psK (bytesOf (prL c []))) (Tree.ite (decide (n = rs.length) && decide (n ≤ 1000)) (Tree.ite (decide (n = 0)) (Tree.ite (!true == sEq (chkW c 0 []) ({ data := #[] } : ByteArray)) (Tree.leaf { v := V.fls, upd := [none], new := [] }) (Tree.ite (sEq (chkW c 0 []) ({ data := #[] } : ByteArray)) (Tree.ite (decide ((psP (bytesOf (prL c []))).length = (poRows (psP (bytesOf (prL c [])))).length) && decide ((psP (bytesOf (prL c []))).length ≤ 1000)) (Tree.ite (decide ((psP (bytesOf (prL c []))).length = 0)) Tree.fail (Tree.ite (decide ((psP (bytesOf (prL c []))).length = (poRows (pots (poRows (psP (bytesOf (prL c [])))))).length) && decide (n = rs.length) && decide ((psP (bytesOf (prL c []))).length ≤ 1000000)) (Tree.ite (!(Cfh.eqB (hidC (bytesOf (prL { id := { b0 := c.id.b0, b1 := c.id.b1, b2 := c.id.b2, b3 := c.id.b3, b4 := c.id.b4, b5 := c.id.b5, b6 := c.id.b6, b7 := c.id.b7 }, dom := c.dom, p1 := c.p1, p2 := c.p2, q := { cl := c.q.cl, ac := c.q.ac, va := c.q.va }, ppb := c.ppb, sl := c.sl } []))) c && eqP (pots (poRows (pots (poRows (psP (bytesOf (prL c []))))))) (pots rs))) (Tree.leaf { v := V.fls, upd := [none], new := [] }) (Tree.ite (decide (s.size < 4294967280) && gdL (lnL s) (lnN s) 0) (Tree.ite (psA s) (Tree.ite (psK s) (Tree.ite (decide ((psP s).length = (poRows (psP s)).length) && decide ((psP s).length ≤ 1000) && cfI (hidC s) && (pots (poRows (psP s))).all potI) (Tree.ite (sEq (bytesOf (prL (hidC s) (pots (poRows (psP s))))) s) (Tree.ite (decide ((psP s).length = (poRows (psP s)).length)) (Tree.leaf { v := V.bool (sEq (chkW (hidC s) (psP s).length (pots (poRows (psP s)))) ({ data := #[] } : ByteArray)), upd := [none], new := [] }) Tree.fail) (Tree.leaf { v := V.fls, upd := [none], new := [] })) Tree.fail) (Tree.leaf { v := V.tru, upd := [none], new := [] })) (Tree.leaf { v := V.tru, upd := [none], new := [] })) Tree.fail)) Tree.fail)) Tree.fail) (Tree.ite (decide (s.size < 4294967280) && gdL (lnL s) (lnN s) 0) (Tree.ite (psA s) (Tree.ite (psK s) (Tree.ite (decide ((psP s).length = (poRows (psP s)).length) && decide ((psP s).length ≤ 1000) && cfI (hidC s) && (pots (poRows (psP s))).all potI) (Tree.ite (sEq (bytesOf (prL (hidC s) (pots (poRows (psP s))))) s) (Tree.ite (decide ((psP s).length = (poRows (psP s)).length)) (Tree.leaf { v := V.bool (sEq (chkW (hidC s) (psP s).length (pots (poRows (psP s)))) ({ data := #[] } : ByteArray)), upd := [none], new := [] }) Tree.fail) (Tree.leaf { v := V.fls, upd := [none], new := [] })) Tree.fail) (Tree.leaf { v := V.tru, upd := [none], new := [] })) (Tree.leaf { v := V.tru, upd := [none], new := [] })) Tree.fail))) (Tree.ite (decide (n = (poRows (pots rs)).length)) (Tree.ite (!true == sEq (chkW c n (pots (poRows (pots rs)))) ({ data := #[] } : ByteArray)) (Tree.leaf { v := V.fls, upd := [none], new := [] }) (Tree.ite (sEq (chkW c n (pots (poRows (pots rs)))) ({ data := #[] } : ByteArray)) (Tree.ite (decide ((psP (bytesOf (prL c []))).length = (poRows (psP (bytesOf (prL c [])))).length) && decide ((psP (bytesOf (prL c []))).length ≤ 1000)) (Tree.ite (decide ((psP (bytesOf (prL c []))).length = 0)) Tree.fail (Tree.ite (decide ((psP (bytesOf (prL c []))).length = (poRows (pots (poRows (psP (bytesOf (prL c [])))))).length) && decide (n = rs.length) && decide ((psP (bytesOf (prL c []))).length ≤ 1000000)) (Tree.ite (!(Cfh.eqB (hidC (bytesOf (prL { id := { b0 := c.id.b0, b1 := c.id.b1, b2 := c.id.b2, b3 := c.id.b3, b4 := c.id.b4, b5 := c.id.b5, b6 := c.id.b6, b7 := c.id.b7 }, dom := c.dom, p1 := c.p1, p2 := c.p2, q := { cl := c.q.cl, ac := c.q.ac, va := c.q.va }, ppb := c.ppb, sl := c.sl } []))) c && eqP (pots (poRows (pots (poRows (psP (bytesOf (prL c []))))))) (pots rs))) (Tree.leaf { v := V.fls, upd := [none], new := [] }) (Tree.ite (decide (s.size < 4294967280) && gdL (lnL s) (lnN s) 0) (Tree.ite (psA s) (Tree.ite (psK s) (Tree.ite (decide ((psP s).length = (poRows (psP s)).length) && decide ((psP s).length ≤ 1000) && cfI (hidC s) && (pots (poRows (psP s))).all potI) (Tree.ite (sEq (bytesOf (prL (hidC s) (pots (poRows (psP s))))) s) (Tree.ite (decide ((psP s).length = (poRows (psP s)).length)) (Tree.leaf { v := V.bool (sEq (chkW (hidC s) (psP s).length (pots (poRows (psP s)))) ({ data := #[] } : ByteArray)), upd := [none], new := [] }) Tree.fail) (Tree.leaf { v := V.fls, upd := [none], new := [] })) Tree.fail) (Tree.leaf { v := V.tru, upd := [none], new := [] })) (Tree.leaf { v := V.tru, upd := [none], new := [] })) Tree.fail)) Tree.fail)) Tree.fail) (Tree.ite (decide (s.size < 4294967280) && gdL (lnL s) (lnN s) 0) (Tree.ite (psA s) (Tree.ite (psK s) (Tree.ite (decide ((psP s).length = (poRows (psP s)).length) && decide ((psP s).length ≤ 1000) && cfI (hidC s) && (pots (poRows (psP s))).all potI) (Tree.ite (sEq (bytesOf (prL (hidC s) (pots (poRows (psP s))))) s) (Tree.ite (decide ((psP s).length = (poRows (psP s)).length)) (Tree.leaf { v := V.bool (sEq (chkW (hidC s) (psP s).length (pots (poRows (psP s)))) ({ data := #[] } : ByteArray)), upd := [none], new := [] }) Tree.fail) (Tree.leaf { v := V.fls, upd := [none], new := [] })) Tree.fail) (Tree.leaf { v := V.tru, upd := [none], new := [] })) (Tree.leaf { v := V.tru, upd := [none], new := [] })) Tree.fail))) Tree.fail)) Tree.fail) (Tree.ite (decide (n = rs.length) && decide (n ≤ 1000)) (Tree.ite (decide (n = 0)) (Tree.ite (!false == sEq (chkW c 0 []) ({ data := #[] } : ByteArray)) (Tree.leaf { v := V.fls, upd := [none], new := [] }) (Tree.ite (sEq (chkW c 0 []) ({ data := #[] } : ByteArray)) Tree.fail (Tree.ite (decide (s.size < 4294967280) && gdL (lnL s) (lnN s) 0) (Tree.ite (psA s) (Tree.ite (psK s) (Tree.ite (decide ((psP s).length = (poRows (psP s)).length) && decide ((psP s).length ≤ 1000) && cfI (hidC s) && (pots (poRows (psP s))).all potI) (Tree.ite (sEq (bytesOf (prL (hidC s) (pots (poRows (psP s))))) s) (Tree.ite (decide ((psP s).length = (poRows (psP s)).length)) (Tree.leaf { v := V.bool (sEq (chkW (hidC s) (psP s).length (pots (poRows (psP s)))) ({ data := #[] } : ByteArray)), upd := [none], new := [] }) Tree.fail) (Tree.leaf { v := V.fls, upd := [none], new := [] })) Tree.fail) (Tree.leaf { v := V.tru, upd := [none], new := [] })) (Tree.leaf { v := V.tru, upd := [none], new := [] })) Tree.fail))) (Tree.ite (decide (n = (poRows (pots rs)).length)) (Tree.ite (!false == sEq (chkW c n (pots (poRows (pots rs)))) ({ data := #[] } : ByteArray)) (Tree.leaf { v := V.fls, upd := [none], new := [] }) (Tree.ite (sEq (chkW c n (pots (poRows (pots rs)))) ({ data := #[] } : ByteArray)) Tree.fail (Tree.ite (decide (s.size < 4294967280) && gdL (lnL s) (lnN s) 0) (Tree.ite (psA s) (Tree.ite (psK s) (Tree.ite (decide ((psP s).length = (poRows (psP s)).length) && decide ((psP s).length ≤ 1000) && cfI (hidC s) && (pots (poRows (psP s))).all potI) (Tree.ite (sEq (bytesOf (prL (hidC s) (pots (poRows (psP s))))) s) (Tree.ite (decide ((psP s).length = (poRows (psP s)).length)) (Tree.leaf { v := V.bool (sEq (chkW (hidC s) (psP s).length (pots (poRows (psP s)))) ({ data := #[] } : ByteArray)), upd := [none], new := [] }) Tree.fail) (Tree.leaf { v := V.fls, upd := [none], new := [] })) Tree.fail) (Tree.leaf { v := V.tru, upd := [none], new := [] })) (Tree.leaf { v := V.tru, upd := [none], new := [] })) Tree.fail))) Tree.fail)) Tree.fail)) (Tree.ite (decide (n = rs.length) && decide (n ≤ 1000)) (Tree.ite (decide (n = 0)) (Tree.ite (!false == sEq (chkW c 0 []) ({ data := #[] } : ByteArray)) (Tree.leaf { v := V.fls, upd := [none], new := [] }) (Tree.ite (sEq (chkW c 0 []) ({ data := #[] } : ByteArray)) (Tree.ite (psT (bytesOf (prL c [])) != 0) (Tree.leaf { v := V.fls, upd := [none], new := [] }) Tree.fail) (Tree.ite (decide (s.size < 4294967280) && gdL (lnL s) (lnN s) 0) (Tree.ite (psA s) (Tree.ite (psK s) (Tree.ite (decide ((psP s).length = (poRows (psP s)).length) && decide ((psP s).length ≤ 1000) && cfI (hidC s) && (pots (poRows (psP s))).all potI) (Tree.ite (sEq (bytesOf (prL (hidC s) (pots (poRows (psP s))))) s) (Tree.ite (decide ((psP s).length = (poRows (psP s)).length)) (Tree.leaf { v := V.bool (sEq (chkW (hidC s) (psP s).length (pots (poRows (psP s)))) ({ data := #[] } : ByteArray)), upd := [none], new := [] }) Tree.fail) (Tree.leaf { v := V.fls, upd := [none], new := [] })) Tree.fail) (Tree.leaf { v := V.tru, upd := [none], new := [] })) (Tree.leaf { v := V.tru, upd := [none], new := [] })) Tree.fail))) (Tree.ite (decide (n = (poRows (pots rs)).length)) (Tree.ite (!false == sEq (chkW c n (pots (poRows (pots rs)))) ({ data := #[] } : ByteArray)) (Tree.leaf { v := V.fls, upd := [none], new := [] }) (Tree.ite (sEq (chkW c n (pots (poRows (pots rs)))) ({ data := #[] } : ByteArray)) (Tree.ite (psT (bytesOf (prL c [])) != 0) (Tree.leaf { v := V.fls, upd := [none], new := [] }) Tree.fail) (Tree.ite (decide (s.size < 4294967280) && gdL (lnL s) (lnN s) 0) (Tree.ite (psA s) (Tree.ite (psK s) (Tree.ite (decide ((psP s).length = (poRows (psP s)).length) && decide ((psP s).length ≤ 1000) && cfI (hidC s) && (pots (poRows (psP s))).all potI) (Tree.ite (sEq (bytesOf (prL (hidC s) (pots (poRows (psP s))))) s) (Tree.ite (decide ((psP s).length = (poRows (psP s)).length)) (Tree.leaf { v := V.bool (sEq (chkW (hidC s) (psP s).length (pots (poRows (psP s)))) ({ data := #[] } : ByteArray)), upd := [none], new := [] }) Tree.fail) (Tree.leaf { v := V.fls, upd := [none], new := [] })) Tree.fail) (Tree.leaf { v := V.tru, upd := [none], new := [] })) (Tree.leaf { v := V.tru, upd := [none], new := [] })) Tree.fail))) Tree.fail)) Tree.fail)) Tree.fail) Tree.fail) (Tree.ite (decide (n = (poRows (pots rs)).length) && decide (n ≤ 1000) && cfI c && (pots (poRows (pots rs))).all potI) (Tree.ite (decide ((bytesOf (prL c (pots (poRows (pots rs))))).size < 4294967280) && gdL (lnL (bytesOf (prL c (pots (poRows (pots rs)))))) (lnN (bytesOf (prL c (pots (poRows (pots rs)))))) 0) (Tree.ite (psA (bytesOf (prL c (pots (poRows (pots rs)))))) (Tree.ite (psK (bytesOf (prL c (pots (poRows (pots rs)))))) (Tree.ite (decide (n = rs.length) && decide (n ≤ 1000)) (Tree.ite (decide (n = 0)) (Tree.ite (!true == sEq (chkW c 0 []) ({ data := #[] } : ByteArray)) (Tree.leaf { v := V.fls, upd := [none], new := [] }) (Tree.ite (sEq (chkW c 0 []) ({ data := #[] } : ByteArray)) (Tree.ite (decide ((psP (bytesOf (prL c (pots (poRows (pots rs)))))).length = (poRows (psP (bytesOf (prL c (pots (poRows (pots rs))))))).length) && decide ((psP (bytesOf (prL c (pots (poRows (pots rs)))))).length ≤ 1000)) (Tree.ite (decide ((psP (bytesOf (prL c (pots (poRows (pots rs)))))).length = 0)) Tree.fail (Tree.ite (decide ((psP (bytesOf (prL c (pots (poRows (pots rs)))))).length = (poRows (pots (poRows (psP (bytesOf (prL c (pots (poRows (pots rs))))))))).length) && decide (n = rs.length) && decide ((psP (bytesOf (prL c (pots (poRows (pots rs)))))).length ≤ 1000000)) (Tree.ite (!(Cfh.eqB (hidC (bytesOf (prL { id := { b0 := c.id.b0, b1 := c.id.b1, b2 := c.id.b2, b3 := c.id.b3, b4 := c.id.b4, b5 := c.id.b5, b6 := c.id.b6, b7 := c.id.b7 }, dom := c.dom, p1 := c.p1, p2 := c.p2, q := { cl := c.q.cl, ac := c.q.ac, va := c.q.va }, ppb := c.ppb, sl := c.sl } (pots (poRows (pots rs)))))) c && eqP (pots (poRows (pots (poRows (psP (bytesOf (prL c (pots (poRows (pots rs)))))))))) (pots rs))) (Tree.leaf { v := V.fls, upd := [none], new := [] }) (Tree.ite (decide (s.size < 4294967280) && gdL (lnL s) (lnN s) 0) (Tree.ite (psA s) (Tree.ite (psK s) (Tree.ite (decide ((psP s).length = (poRows (psP s)).length) && decide ((psP s).length ≤ 1000) && cfI (hidC s) && (pots (poRows (psP s))).all potI) (Tree.ite (sEq (bytesOf (prL (hidC s) (pots (poRows (psP s))))) s) (Tree.ite (decide ((psP s).length = (poRows (psP s)).length)) (Tree.leaf { v := V.bool (sEq (chkW (hidC s) (psP s).length (pots (poRows (psP s)))) ({ data := #[] } : ByteArray)), upd := [none], new := [] }) Tree.fail) (Tree.leaf { v := V.fls, upd := [none], new := [] })) Tree.fail) (Tree.leaf { v := V.tru, upd := [none], new := [] })) (Tree.leaf { v := V.tru, upd := [none], new := [] })) Tree.fail)) Tree.fail)) Tree.fail) (Tree.ite (decide (s.size < 4294967280) && gdL (lnL s) (lnN s) 0) (Tree.ite (psA s) (Tree.ite (psK s) (Tree.ite (decide ((psP s).length = (poRows (psP s)).length) && decide ((psP s).length ≤ 1000) && cfI (hidC s) && (pots (poRows (psP s))).all potI) (Tree.ite (sEq (bytesOf (prL (hidC s) (pots (poRows (psP s))))) s) (Tree.ite (decide ((psP s).length = (poRows (psP s)).length)) (Tree.leaf { v := V.bool (sEq (chkW (hidC s) (psP s).length (pots (poRows (psP s)))) ({ data := #[] } : ByteArray)), upd := [none], new := [] }) Tree.fail) (Tree.leaf { v := V.fls, upd := [none], new := [] })) Tree.fail) (Tree.leaf { v := V.tru, upd := [none], new := [] })) (Tree.leaf { v := V.tru, upd := [none], new := [] })) Tree.fail))) (Tree.ite (decide (n = (poRows (pots rs)).length)) (Tree.ite (!true == sEq (chkW c n (pots (poRows (pots rs)))) ({ data := #[] } : ByteArray)) (Tree.leaf { v := V.fls, upd := [none], new := [] }) (Tree.ite (sEq (chkW c n (pots (poRows (pots rs)))) ({ data := #[] } : ByteArray)) (Tree.ite (decide ((psP (bytesOf (prL c (pots (poRows (pots rs)))))).length = (poRows (psP (bytesOf (prL c (pots (poRows (pots rs))))))).length) && decide ((psP (bytesOf (prL c (pots (poRows (pots rs)))))).length ≤ 1000)) (Tree.ite (decide ((psP (bytesOf (prL c (pots (poRows (pots rs)))))).length = 0)) Tree.fail (Tree.ite (decide ((psP (bytesOf (prL c (pots (poRows (pots rs)))))).length = (poRows (pots (poRows (psP (bytesOf (prL c (pots (poRows (pots rs))))))))).length) && decide (n = rs.length) && decide ((psP (bytesOf (prL c (pots (poRows (pots rs)))))).length ≤ 1000000)) (Tree.ite (!(Cfh.eqB (hidC (bytesOf (prL { id := { b0 := c.id.b0, b1 := c.id.b1, b2 := c.id.b2, b3 := c.id.b3, b4 := c.id.b4, b5 := c.id.b5, b6 := c.id.b6, b7 := c.id.b7 }, dom := c.dom, p1 := c.p1, p2 := c.p2, q := { cl := c.q.cl, ac := c.q.ac, va := c.q.va }, ppb := c.ppb, sl := c.sl } (pots (poRows (pots rs)))))) c && eqP (pots (poRows (pots (poRows (psP (bytesOf (prL c (pots (poRows (pots rs)))))))))) (pots rs))) (Tree.leaf { v := V.fls, upd := [none], new := [] }) (Tree.ite (decide (s.size < 4294967280) && gdL (lnL s) (lnN s) 0) (Tree.ite (psA s) (Tree.ite (psK s) (Tree.ite (decide ((psP s).length = (poRows (psP s)).length) && decide ((psP s).length ≤ 1000) && cfI (hidC s) && (pots (poRows (psP s))).all potI) (Tree.ite (sEq (bytesOf (prL (hidC s) (pots (poRows (psP s))))) s) (Tree.ite (decide ((psP s).length = (poRows (psP s)).length)) (Tree.leaf { v := V.bool (sEq (chkW (hidC s) (psP s).length (pots (poRows (psP s)))) ({ data := #[] } : ByteArray)), upd := [none], new := [] }) Tree.fail) (Tree.leaf { v := V.fls, upd := [none], new := [] })) Tree.fail) (Tree.leaf { v := V.tru, upd := [none], new := [] })) (Tree.leaf { v := V.tru, upd := [none], new := [] })) Tree.fail)) Tree.fail)) Tree.fail) (Tree.ite (decide (s.size < 4294967280) && gdL (lnL s) (lnN s) 0) (Tree.ite (psA s) (Tree.ite (psK s) (Tree.ite (decide ((psP s).length = (poRows (psP s)).length) && decide ((psP s).length ≤ 1000) && cfI (hidC s) && (pots (poRows (psP s))).all potI) (Tree.ite (sEq (bytesOf (prL (hidC s) (pots (poRows (psP s))))) s) (Tree.ite (decide ((psP s).length = (poRows (psP s)).length)) (Tree.leaf { v := V.bool (sEq (chkW (hidC s) (psP s).length (pots (poRows (psP s)))) ({ data := #[] } : ByteArray)), upd := [none], new := [] }) Tree.fail) (Tree.leaf { v := V.fls, upd := [none], new := [] })) Tree.fail) (Tree.leaf { v := V.tru, upd := [none], new := [] })) (Tree.leaf { v := V.tru, upd := [none], new := [] })) Tree.fail))) Tree.fail)) Tree.fail) (Tree.ite (decide (n = rs.length) && decide (n ≤ 1000)) (Tree.ite (decide (n = 0)) (Tree.ite (!false == sEq (chkW c 0 []) ({ data := #[] } : ByteArray)) (Tree.leaf { v := V.fls, upd := [none], new := [] }) (Tree.ite (sEq (chkW c 0 []) ({ data := #[] } : ByteArray)) Tree.fail (Tree.ite (decide (s.size < 4294967280) && gdL (lnL s) (lnN s) 0) (Tree.ite (psA s) (Tree.ite (psK s) (Tree.ite (decide ((psP s).length = (poRows (psP s)).length) && decide ((psP s).length ≤ 1000) && cfI (hidC s) && (pots (poRows (psP s))).all potI) (Tree.ite (sEq (bytesOf (prL (hidC s) (pots (poRows (psP s))))) s) (Tree.ite (decide ((psP s).length = (poRows (psP s)).length)) (Tree.leaf { v := V.bool (sEq (chkW (hidC s) (psP s).length (pots (poRows (psP s)))) ({ data := #[] } : ByteArray)), upd := [none], new := [] }) Tree.fail) (Tree.leaf { v := V.fls, upd := [none], new := [] })) Tree.fail) (Tree.leaf { v := V.tru, upd := [none], new := [] })) (Tree.leaf { v := V.tru, upd := [none], new := [] })) Tree.fail))) (Tree.ite (decide (n = (poRows (pots rs)).length)) (Tree.ite (!false == sEq (chkW c n (pots (poRows (pots rs)))) ({ data := #[] } : ByteArray)) (Tree.leaf { v := V.fls, upd := [none], new := [] }) (Tree.ite (sEq (chkW c n (pots (poRows (pots rs)))) ({ data := #[] } : ByteArray)) Tree.fail (Tree.ite (decide (s.size < 4294967280) && gdL (lnL s) (lnN s) 0) (Tree.ite (psA s) (Tree.ite (psK s) (Tree.ite (decide ((psP s).length = (poRows (psP s)).length) && decide ((psP s).length ≤ 1000) && cfI (hidC s) && (pots (poRows (psP s))).all potI) (Tree.ite (sEq (bytesOf (prL (hidC s) (pots (poRows (psP s))))) s) (Tree.ite (decide ((psP s).length = (poRows (psP s)).length)) (Tree.leaf { v := V.bool (sEq (chkW (hidC s) (psP s).length (pots (poRows (psP s)))) ({ data := #[] } : ByteArray)), upd := [none], new := [] }) Tree.fail) (Tree.leaf { v := V.fls, upd := [none], new := [] })) Tree.fail) (Tree.leaf { v := V.tru, upd := [none], new := [] })) (Tree.leaf { v := V.tru, upd := [none], new := [] })) Tree.fail))) Tree.fail)) Tree.fail)) (Tree.ite (decide (n = rs.length) && decide (n ≤ 1000)) (Tree.ite (decide (n = 0)) (Tree.ite (!false == sEq (chkW c 0 []) ({ data := #[] } : ByteArray)) (Tree.leaf { v := V.fls, upd := [none], new := [] }) (Tree.ite (sEq (chkW c 0 []) ({ data := #[] } : ByteArray)) (Tree.ite (psT (bytesOf (prL c (pots (poRows (pots rs))))) != 0) (Tree.leaf { v := V.fls, upd := [none], new := [] }) Tree.fail) (Tree.ite (decide (s.size < 4294967280) && gdL (lnL s) (lnN s) 0) (Tree.ite (psA s) (Tree.ite (psK s) (Tree.ite (decide ((psP s).length = (poRows (psP s)).length) && decide ((psP s).length ≤ 1000) && cfI (hidC s) && (pots (poRows (psP s))).all potI) (Tree.ite (sEq (bytesOf (prL (hidC s) (pots (poRows (psP s))))) s) (Tree.ite (decide ((psP s).length = (poRows (psP s)).length)) (Tree.leaf { v := V.bool (sEq (chkW (hidC s) (psP s).length (pots (poRows (psP s)))) ({ data := #[] } : ByteArray)), upd := [none], new := [] }) Tree.fail) (Tree.leaf { v := V.fls, upd := [none], new := [] })) Tree.fail) (Tree.leaf { v := V.tru, upd := [none], new := [] })) (Tree.leaf { v := V.tru, upd := [none], new := [] })) Tree.fail))) (Tree.ite (decide (n = (poRows (pots rs)).length)) (Tree.ite (!false == sEq (chkW c n (pots (poRows (pots rs)))) ({ data := #[] } : ByteArray)) (Tree.leaf { v := V.fls, upd := [none], new := [] }) (Tree.ite (sEq (chkW c n (pots (poRows (pots rs)))) ({ data := #[] } : ByteArray)) (Tree.ite (psT (bytesOf (prL c (pots (poRows (pots rs))))) != 0) (Tree.leaf { v := V.fls, upd := [none], new := [] }) Tree.fail) (Tree.ite (decide (s.size < 4294967280) && gdL (lnL s) (lnN s) 0) (Tree.ite (psA s) (Tree.ite (psK s) (Tree.ite (decide ((psP s).length = (poRows (psP s)).length) && decide ((psP s).length ≤ 1000) && cfI (hidC s) && (pots (poRows (psP s))).all potI) (Tree.ite (sEq (bytesOf (prL (hidC s) (pots (poRows (psP s))))) s) (Tree.ite (decide ((psP s).length = (poRows (psP s)).length)) (Tree.leaf { v := V.bool (sEq (chkW (hidC s) (psP s).length (pots (poRows (psP s)))) ({ data := #[] } : ByteArray)), upd := [none], new := [] }) Tree.fail) (Tree.leaf { v := V.fls, upd := [none], new := [] })) Tree.fail) (Tree.leaf { v := V.tru, upd := [none], new := [] })) (Tree.leaf { v := V.tru, upd := [none], new := [] })) Tree.fail))) Tree.fail)) Tree.fail)) Tree.fail) Tree.fail)) Tree.fail))) from by kernel_rfl]
        have hz : ({ data := #[] } : ByteArray) = wNone := rfl
        simp only [pots_rows, poRows_len, pots_len, hidC_eq, h2, h3, ← h1, hz, decide_true]
        by_cases h100 : (n : Int) > 100
        · rw [decide_eq_true h100]; rfl
        by_cases hs : (s.size : Int) > 20000
        · rw [decide_eq_false h100, decide_eq_true hs]; rfl
        rw [decide_eq_false h100, decide_eq_false hs, decide_eq_true (show n ≤ 1000 by omega)]
        have hgs := gd_of_size (s := s) (by omega)
        have hlen : n = (pots rs).length := by rw [pots_len]; exact h1
        have hgt := gd_of_size (s := bytesOf (prL c (pots rs))) (by have := prL_size h2 h3; omega)
        rw [hgs]
        -- what is said of the other text
        have hs2 : psA s = true → psK s = true → (psP s).length ≤ 1000 ∧ cfI (psC s) = true ∧ (psP s).all potI = true ∧ sEq (bytesOf (prL (psC s) (psP s))) s = true ∧ sEq (chkW (psC s) (psP s).length (psP s)) wNone = true := by
          intro ha hk
          have hk' := sEq_iff.1 hk
          have := (good_of (psC_I ha) rfl hk').2.2.2
          exact ⟨by omega, psC_I ha, psP_I s, sEq_iff.2 (ps_text ha), hk⟩
        by_cases h0 : n = 0
        · have hp : pots rs = [] := List.eq_nil_of_length_eq_zero (by omega)
          have hne : chkW c 0 [] ≠ wNone := fun e => absurd rfl (good_of h2 (ps := []) rfl e).2.2.1
          have hq : sEq (chkW c 0 []) wNone = false := Bool.eq_false_iff.2 fun e => hne (sEq_iff.1 e)
          have hb := ps_bad h2 (ps := []) rfl rfl hne
          rw [hp] at hgt
          rw [decide_eq_true h0, hgt, hq]
          cases hta : psA (bytesOf (prL c [])) with
          | false =>
            cases ha : psA s with
            | false => rfl
            | true =>
              cases hk : psK s with
              | false => rfl
              | true =>
                obtain ⟨q1, q2, q3, q4, q5⟩ := hs2 ha hk
                rw [decide_eq_true q1, q2, q3, q4, q5]; rfl
          | true =>
            rw [hb hta]
            cases ha : psA s with
            | false => rfl
            | true =>
              cases hk : psK s with
              | false => rfl
              | true =>
                obtain ⟨q1, q2, q3, q4, q5⟩ := hs2 ha hk
                rw [decide_eq_true q1, q2, q3, q4, q5]; rfl
        · rw [decide_eq_false h0, hgt]
          by_cases hne : chkW c n (pots rs) = wNone
          · obtain ⟨g1, g2, g3, g4⟩ := ps_good h2 hlen hne
            rw [g1, g2, g3, g4, sEq_iff.2 hne, ← hlen, decide_eq_false h0, decide_eq_true (show n ≤ 1000 by omega), decide_eq_true (show n ≤ 1000000 by omega), Cfh.eqB_iff.2 rfl, eqP_iff.2 rfl]
            cases ha : psA s with
            | false => rfl
            | true =>
              cases hk : psK s with
              | false => rfl
              | true =>
                obtain ⟨q1, q2, q3, q4, q5⟩ := hs2 ha hk
                rw [decide_eq_true q1, q2, q3, q4, q5]; rfl
          · have hb := ps_bad h2 h3 hlen hne
            have hq : sEq (chkW c n (pots rs)) wNone = false := Bool.eq_false_iff.2 fun e => hne (sEq_iff.1 e)
            rw [hq]
            cases hta : psA (bytesOf (prL c (pots rs))) with
            | false =>
              cases ha : psA s with
              | false => rfl
              | true =>
                cases hk : psK s with
                | false => rfl
                | true =>
                  obtain ⟨q1, q2, q3, q4, q5⟩ := hs2 ha hk
                  rw [decide_eq_true q1, q2, q3, q4, q5]; rfl
            | true =>
              rw [hb hta]
              cases ha : psA s with
              | false => rfl
              | true =>
                cases hk : psK s with
                | false => rfl
                | true =>
                  obtain ⟨q1, q2, q3, q4, q5⟩ := hs2 ha hk
                  rw [decide_eq_true q1, q2, q3, q4, q5]; rfl
      · simp [den_fail] at h
    · simp [den_fail] at h
  · simp [den_fail] at h
end Go.Proofs.YtkgbphheppfnaaaDoor

set_option maxRecDepth 100000
set_option linter.unusedSimpArgs false
set_option linter.unusedVariables false
namespace Go.Proofs.YtkgbphheppfnaaaDoor
open Go.Rx
noncomputable abbrev clG' : List (Nat × Rx.Spec) := [(7, avS), (13, psS2)]
theorem clG'_ok : GammaOK P clG' := .cons av_ok (.cons ps2_ok (.nil P))
theorem cl_round (k : Int) (tw : Bool) (t : ByteArray) (fr ln N i : Int) : (evRound P (specsOf clG') (loopsOf []) 92 [1, 2, 7, 8, 9, 32, 33] [6] (loopAt Tryd.f5 0) [.int .i64 k, .bool tw, .str t, .int .i64 fr, .int .i64 ln, .int .i64 N, .int .i64 i] []).den = Tree.den (Tree.ite (decide (i < N)) (Tree.ite (ln == k) (Tree.ite (decide (0 ≤ i) && decide (i < (↑t.size : Int))) (Tree.ite (sAt t i.toNat == 10) (Tree.ite (true && decide (0 ≤ fr) && decide (fr ≤ (↑t.size : Int))) (Tree.ite (decide (0 ≤ IntKind.i64.wrap (i + 1)) && decide (IntKind.i64.wrap (i + 1) ≤ (↑t.size : Int)) && decide ((↑t.size : Int) ≤ (↑t.size : Int))) (Tree.ite (decide ((t.extract 0 fr.toNat).size + (t.extract (IntKind.i64.wrap (i + 1)).toNat t.size).size ≤ 9223372036854775807)) (Tree.ite tw (Tree.ite (true && decide (0 ≤ IntKind.i64.wrap (i + 1)) && decide (IntKind.i64.wrap (i + 1) ≤ (↑t.size : Int))) (Tree.ite (decide (0 ≤ fr) && decide (fr ≤ (↑t.size : Int)) && decide ((↑t.size : Int) ≤ (↑t.size : Int))) (Tree.ite (decide ((t.extract 0 (IntKind.i64.wrap (i + 1)).toNat).size + (t.extract fr.toNat t.size).size ≤ 9223372036854775807)) (Tree.ite (decide ((t.extract 0 (IntKind.i64.wrap (i + 1)).toNat ++ t.extract fr.toNat t.size).size < 4294967280) && gdL (lnL (t.extract 0 (IntKind.i64.wrap (i + 1)).toNat ++ t.extract fr.toNat t.size)) (lnN (t.extract 0 (IntKind.i64.wrap (i + 1)).toNat ++ t.extract fr.toNat t.size)) 0) (Tree.ite (psA (t.extract 0 (IntKind.i64.wrap (i + 1)).toNat ++ t.extract fr.toNat t.size)) (Tree.ite (psK (t.extract 0 (IntKind.i64.wrap (i + 1)).toNat ++ t.extract fr.toNat t.size)) (Tree.ite tw (Tree.leaf { e := Ex.ret, vs := [V.fls], upd := [], new := [] }) (Tree.leaf { e := Ex.ret, vs := [V.fls], upd := [], new := [] })) (Tree.ite tw (Tree.leaf { e := Ex.ret, vs := [V.bool (0 == IntKind.i64.wrap (k + 2))], upd := [], new := [] }) (Tree.leaf { e := Ex.ret, vs := [V.bool (0 == IntKind.i64.wrap (k + 1))], upd := [], new := [] }))) (Tree.ite tw (Tree.leaf { e := Ex.ret, vs := [V.bool (psT (t.extract 0 (IntKind.i64.wrap (i + 1)).toNat ++ t.extract fr.toNat t.size) == IntKind.i64.wrap (k + 2))], upd := [], new := [] }) (Tree.leaf { e := Ex.ret, vs := [V.bool (psT (t.extract 0 (IntKind.i64.wrap (i + 1)).toNat ++ t.extract fr.toNat t.size) == IntKind.i64.wrap (k + 1))], upd := [], new := [] }))) Tree.fail) Tree.fail) Tree.fail) Tree.fail) (Tree.ite (decide ((t.extract 0 fr.toNat ++ t.extract (IntKind.i64.wrap (i + 1)).toNat t.size).size < 4294967280) && gdL (lnL (t.extract 0 fr.toNat ++ t.extract (IntKind.i64.wrap (i + 1)).toNat t.size)) (lnN (t.extract 0 fr.toNat ++ t.extract (IntKind.i64.wrap (i + 1)).toNat t.size)) 0) (Tree.ite (psA (t.extract 0 fr.toNat ++ t.extract (IntKind.i64.wrap (i + 1)).toNat t.size)) (Tree.ite (psK (t.extract 0 fr.toNat ++ t.extract (IntKind.i64.wrap (i + 1)).toNat t.size)) (Tree.ite tw (Tree.leaf { e := Ex.ret, vs := [V.fls], upd := [], new := [] }) (Tree.leaf { e := Ex.ret, vs := [V.fls], upd := [], new := [] })) (Tree.ite tw (Tree.leaf { e := Ex.ret, vs := [V.bool (0 == IntKind.i64.wrap (k + 2))], upd := [], new := [] }) (Tree.leaf { e := Ex.ret, vs := [V.bool (0 == IntKind.i64.wrap (k + 1))], upd := [], new := [] }))) (Tree.ite tw (Tree.leaf { e := Ex.ret, vs := [V.bool (psT (t.extract 0 fr.toNat ++ t.extract (IntKind.i64.wrap (i + 1)).toNat t.size) == IntKind.i64.wrap (k + 2))], upd := [], new := [] }) (Tree.leaf { e := Ex.ret, vs := [V.bool (psT (t.extract 0 fr.toNat ++ t.extract (IntKind.i64.wrap (i + 1)).toNat t.size) == IntKind.i64.wrap (k + 1))], upd := [], new := [] }))) Tree.fail)) Tree.fail) Tree.fail) Tree.fail) (Tree.ite (decide (0 ≤ i) && decide (i < (↑t.size : Int))) (Tree.ite (sAt t i.toNat == 10) (Tree.leaf { e := Ex.nrm, vs := [V.int IntKind.i64 k, V.bool tw, V.str t, V.int IntKind.i64 (IntKind.i64.wrap (i + 1)), V.int IntKind.i64 (IntKind.i64.wrap (ln + 1)), V.int IntKind.i64 N, V.int IntKind.i64 (IntKind.i64.wrap (i + 1))], upd := [], new := [] }) (Tree.leaf { e := Ex.nrm, vs := [V.int IntKind.i64 k, V.bool tw, V.str t, V.int IntKind.i64 fr, V.int IntKind.i64 ln, V.int IntKind.i64 N, V.int IntKind.i64 (IntKind.i64.wrap (i + 1))], upd := [], new := [] })) Tree.fail)) Tree.fail) (Tree.ite (decide (0 ≤ i) && decide (i < (↑t.size : Int))) (Tree.ite (sAt t i.toNat == 10) (Tree.leaf { e := Ex.nrm, vs := [V.int IntKind.i64 k, V.bool tw, V.str t, V.int IntKind.i64 (IntKind.i64.wrap (i + 1)), V.int IntKind.i64 (IntKind.i64.wrap (ln + 1)), V.int IntKind.i64 N, V.int IntKind.i64 (IntKind.i64.wrap (i + 1))], upd := [], new := [] }) (Tree.leaf { e := Ex.nrm, vs := [V.int IntKind.i64 k, V.bool tw, V.str t, V.int IntKind.i64 fr, V.int IntKind.i64 ln, V.int IntKind.i64 N, V.int IntKind.i64 (IntKind.i64.wrap (i + 1))], upd := [], new := [] })) Tree.fail)) (Tree.leaf { e := Ex.exit 0, vs := [V.any], upd := [], new := [] })) := by
  kernel_rfl
theorem sAt_drop {t : ByteArray} {i : Nat} {b : UInt8} {l : List UInt8} (h : t.data.toList.drop i = b :: l) : sAt t i = (b.toNat : Int) := by
  unfold sAt
  have : (t.data.toList)[i]? = some b := by
    have := congrArg (fun l => l[0]?) h
    simpa using this
  rw [List.getD_eq_getElem?_getD, this]; rfl
theorem sAt_ten {t : ByteArray} {i : Nat} {b : UInt8} {l : List UInt8} (h : t.data.toList.drop i = b :: l) : (sAt t i == 10) = decide (b = 10) := by
  rw [sAt_drop h]
  by_cases e : b = 10
  · subst e; rfl
  · rw [decide_eq_false e]
    refine Bool.eq_false_iff.2 fun q => e ?_
    have q := beq_iff_eq.1 q
    apply UInt8.toNat_inj.1
    have e10 : (10 : UInt8).toNat = 10 := rfl
    omega
theorem ct_sz (t : ByteArray) (a b : Nat) : (t.extract 0 a).size + (t.extract b t.size).size ≤ 2 * t.size := by
  have := extract_size_le t 0 a
  have := extract_size_le t b t.size
  omega
theorem cl_all {k : Nat} {tw : Bool} {t : ByteArray} {f j : Nat} (hk : k ≤ 6) (hs : t.size ≤ 400000) (hA : psA (ctT t tw f j) = false) (hT : psT (ctT t tw f j) = bif tw then (k : Int) + 2 else (k : Int) + 1) :
    ∀ (l : List UInt8) (i fr ln : Nat), t.data.toList.drop i = l → i + l.length = t.size → fr ≤ i → ln ≤ i → fnd k l i fr ln = some (f, j) →
    loopM P (specsOf clG') (loopsOf []) 92 [1, 2, 7, 8, 9, 32, 33] [6] (loopAt Tryd.f5 0) (l.length + 1) [.int .i64 k, .bool tw, .str t, .int .i64 fr, .int .i64 ln, .int .i64 t.size, .int .i64 i] [] = some ⟨.ret, [.bool true], [], []⟩ := by
  intro l
  induction l with
  | nil => intro i fr ln _ _ _ _ h; cases h
  | cons b l ih =>
    intro i fr ln hd hi hf hln h
    simp only [List.length_cons] at hi
    have st := cl_round k tw t fr ln t.size i
    have w1 : IntKind.i64.wrap ((i : Int) + 1) = ((i + 1 : Nat) : Int) := by rw [wrap64_id (by omega) (by omega)]; omega
    have w2 : IntKind.i64.wrap ((k : Int) + 1) = (k : Int) + 1 := wrap64_id (by omega) (by omega)
    have w3 : IntKind.i64.wrap ((k : Int) + 2) = (k : Int) + 2 := wrap64_id (by omega) (by omega)
    have w4 : IntKind.i64.wrap ((ln : Int) + 1) = ((ln + 1 : Nat) : Int) := by rw [wrap64_id (by omega) (by omega)]; omega
    have hd' : t.data.toList.drop (i + 1) = l := by
      have := congrArg (List.drop 1) hd
      rw [List.drop_drop] at this
      exact this
    have hsz1 := ct_sz t fr (i + 1)
    have hsz2 := ct_sz t (i + 1) fr
    have hlk : ((ln : Int) == (k : Int)) = decide (ln = k) := by
      by_cases e : ln = k
      · subst e; simp
      · rw [decide_eq_false e]; simp; omega
    simp only [w1, w2, w3, w4, Int.toNat_natCast, sAt_ten hd, hlk] at st
    rw [decide_eq_true (show (i : Int) < (t.size : Int) by omega), decide_eq_true (show (0 : Int) ≤ (i : Int) by omega), decide_eq_true (show (0 : Int) ≤ (fr : Int) by omega), decide_eq_true (show (fr : Int) ≤ (t.size : Int) by omega),
      decide_eq_true (show (0 : Int) ≤ ((i + 1 : Nat) : Int) by omega), decide_eq_true (show ((i + 1 : Nat) : Int) ≤ (t.size : Int) by omega), decide_eq_true (Int.le_refl (t.size : Int)),
      decide_eq_true (show (t.extract 0 fr).size + (t.extract (i + 1) t.size).size ≤ 9223372036854775807 by omega), decide_eq_true (show (t.extract 0 (i + 1)).size + (t.extract fr t.size).size ≤ 9223372036854775807 by omega)] at st
    unfold fnd at h
    by_cases hb : b = 10
    · rw [if_pos hb] at h
      rw [decide_eq_true hb] at st
      by_cases hlk2 : ln = k
      · rw [if_pos hlk2] at h
        obtain ⟨hfr, hij⟩ : fr = f ∧ i = j := by simpa using h
        rw [← hfr, ← hij] at hA hT
        clear ih h
        rw [decide_eq_true hlk2] at st
        cases tw with
        | true =>
          have hA' : psA (t.extract 0 (i + 1) ++ t.extract fr t.size) = false := hA
          have hT' : psT (t.extract 0 (i + 1) ++ t.extract fr t.size) = (k : Int) + 2 := hT
          rw [gd_of_size (s := t.extract 0 (i + 1) ++ t.extract fr t.size) (by rw [ByteArray.size_append]; omega), hA', hT', beq_self_eq_true] at st
          exact loopM_end (st.trans rfl) (by show Ex.ret ≠ Ex.nrm; decide) rfl
        | false =>
          have hA' : psA (t.extract 0 fr ++ t.extract (i + 1) t.size) = false := hA
          have hT' : psT (t.extract 0 fr ++ t.extract (i + 1) t.size) = (k : Int) + 1 := hT
          rw [gd_of_size (s := t.extract 0 fr ++ t.extract (i + 1) t.size) (by rw [ByteArray.size_append]; omega), hA', hT', beq_self_eq_true] at st
          exact loopM_end (st.trans rfl) (by show Ex.ret ≠ Ex.nrm; decide) rfl
      · rw [if_neg hlk2] at h
        rw [decide_eq_false hlk2] at st
        have ih' := ih (i + 1) (i + 1) (ln + 1) hd' (by omega) (Nat.le_refl _) (by omega) h
        refine loopM_step (st.trans rfl) rfl (vals' := [.int .i64 k, .bool tw, .str t, .int .i64 ((i + 1 : Nat) : Int), .int .i64 ((ln + 1 : Nat) : Int), .int .i64 t.size, .int .i64 ((i + 1 : Nat) : Int)]) (bs' := []) (by kernel_rfl) (by kernel_rfl) (by kernel_rfl) ih' ?_
        (show ((seqAfter _ _ _).den).map nrmL = some _; kernel_rfl)
    · rw [if_neg hb] at h
      rw [decide_eq_false hb] at st
      have ih' := ih (i + 1) fr ln hd' (by omega) (by omega) (by omega) h
      have st' : (evRound P (specsOf clG') (loopsOf []) 92 [1, 2, 7, 8, 9, 32, 33] [6] (loopAt Tryd.f5 0) [.int .i64 k, .bool tw, .str t, .int .i64 fr, .int .i64 ln, .int .i64 t.size, .int .i64 i] []).den = some ⟨.nrm, [.int .i64 k, .bool tw, .str t, .int .i64 fr, .int .i64 ln, .int .i64 t.size, .int .i64 ((i + 1 : Nat) : Int)], [], []⟩ := by
        refine st.trans ?_
        cases decide (ln = k) <;> rfl
      refine loopM_step st' rfl (vals' := [.int .i64 k, .bool tw, .str t, .int .i64 fr, .int .i64 ln, .int .i64 t.size, .int .i64 ((i + 1 : Nat) : Int)]) (bs' := []) (by kernel_rfl) (by kernel_rfl) (by kernel_rfl) ih' ?_
      (show ((seqAfter _ _ _).den).map nrmL = some _; kernel_rfl)
/-- What is known where the loop is met. -/
def clB (t : ByteArray) (k : Nat) (tw : Bool) : Bool := match fnd k t.data.toList 0 0 0 with
  | some (f, j) => !psA (ctT t tw f j) && decide (psT (ctT t tw f j) = bif tw then (k : Int) + 2 else (k : Int) + 1)
  | none => false
def clF (vals : List V) (bs : List Blk) : Tree LRes := match vals, bs with
  | [.int .i64 k, .bool tw, .str t, .int .i64 fr, .int .i64 ln, .int .i64 N, .int .i64 i], [] => .need (decide (0 ≤ k) && decide (k ≤ 6) && decide (t.size ≤ 400000) && decide (fr = 0) && decide (ln = 0) && decide (N = t.size) && decide (i = 0) && clB t k.toNat tw) (.leaf ⟨.ret, [.tru], [], []⟩)
  | _, _ => .fail
def clL : LSpec := ⟨92, [1, 2, 7, 8, 9, 32, 33], [6], clF⟩
theorem cl_loop : LoopOK P (loopAt Tryd.f5 0) clL.nz := by
  refine loop_okM clG'_ok Go.Proofs.YtkgbphheppfnaaaDoor.hm (Λ := loopsOf []) (LoopsOK.nil (by kernel_rfl)) clL ?_
  intro vals bs r h
  simp only [clL, clF] at h
  split at h
  · rename_i k tw t fr ln N i
    rw [den_need, denLf] at h
    simp only [Bool.and_eq_true, decide_eq_true_eq] at h
    obtain ⟨⟨⟨⟨⟨⟨⟨⟨h0, h1⟩, h2⟩, rfl⟩, rfl⟩, rfl⟩, rfl⟩, hB⟩, h⟩ := h
    cases h
    unfold clB at hB
    split at hB
    · rename_i f j hf
      simp only [Bool.and_eq_true, Bool.not_eq_true', decide_eq_true_eq] at hB
      have e : ((k.toNat : Nat) : Int) = k := by omega
      have := cl_all (k := k.toNat) (tw := tw) (t := t) (f := f) (j := j) (by omega) h2 hB.1 hB.2 t.data.toList 0 0 0 rfl (by rw [Nat.zero_add]; simp) (Nat.le_refl _) (Nat.le_refl _) hf
      rw [e, show ((0 : Nat) : Int) = 0 from rfl] at this
      refine ⟨t.data.toList.length + 1, ?_⟩
      exact this
    · cases hB
  · simp [den_fail] at h
noncomputable abbrev clH : List (Nat × Rx.Spec) := [(7, avS), (9, owS), (10, rcS), (11, Rx.Spec.N prtS)]
theorem clH_ok : GammaOK P clH := .cons av_ok (.cons ow_ok (.cons rck_ok (.cons prt_ok.N (.nil P))))
def clS : Rx.Spec := fun a b => match a with
  | [.agg cs, .int .i64 k, .bool tw] => match Cfh.p cs with
    | some (c, [.sl 0 0 0 6 n none]) => match b with
      | [.rows [.int .i64, .int .i64, .int .i64, .int .i64, .int .i64, .int .i64] rs] => .need (decide (n = rs.length) && decide (n ≤ 100000000000000) && (cfI c && (pots rs).all potI)) (.leaf ⟨.bool true, [none], []⟩)
      | _ => .fail
    | _ => .fail
  | _ => .fail
theorem cl_ok : SpecOK P 5 clS := by
  refine specOK_fast clH_ok hm (Λ := loopsOf [(5, clL.nz)]) Tryd.func5 (by kernel_rfl) (LoopsOK.one (by kernel_rfl) cl_loop) ?_
  intro args bs r h
  unfold clS at h
  split at h
  · split at h
    · split at h
      · rename_i cs k tw _ c n hc _ rs
        rw [Cfh.p_eq hc]
        rw [den_need, denLf] at h
        simp only [Bool.and_eq_true, decide_eq_true_eq] at h
        obtain ⟨⟨⟨h1, hb⟩, h2, h3⟩, h⟩ := h
        cases h
        rw [show (fFn P (specsOf clH) (loopsOf [(5, clL.nz)]) Tryd.f5 [.agg (c.vs ++ [.sl 0 0 0 6 n none]), .int .i64 k, .bool tw] [.rows poK rs]).denN = Tree.denN (Tree.ite (decide (n = rs.length) && decide (n ≤ 100000000000000)) (Tree.ite (!sEq (chkW c n (pots rs)) ({ data := #[] } : ByteArray)) (Tree.leaf { v := V.tru, upd := [none], new := [] }) (Tree.ite (decide (k < 0)) (Tree.leaf { v := V.tru, upd := [none], new := [] }) (Tree.ite (decide (k > 6)) (Tree.leaf { v := V.tru, upd := [none], new := [] }) (Tree.ite (decide (n = rs.length) && decide (n ≤ 1000)) (Tree.ite (decide (n = 0)) (Tree.ite (cfI c) (Tree.ite (decide (0 ≤ k) && decide (k ≤ 6) && decide ((bytesOf (prL c [])).size ≤ 400000) && true && true && decide ((↑(bytesOf (prL c [])).size : Int) = (↑(bytesOf (prL c [])).size : Int)) && true && clB (bytesOf (prL c [])) k.toNat tw) (Tree.leaf { v := V.tru, upd := [none], new := [] }) Tree.fail) Tree.fail) (Tree.ite (decide (n = (poRows (pots rs)).length) && decide (n ≤ 1000) && cfI c && (pots (poRows (pots rs))).all potI) (Tree.ite (decide (0 ≤ k) && decide (k ≤ 6) && decide ((bytesOf (prL c (pots (poRows (pots rs))))).size ≤ 400000) && true && true && decide ((↑(bytesOf (prL c (pots (poRows (pots rs))))).size : Int) = (↑(bytesOf (prL c (pots (poRows (pots rs))))).size : Int)) && true && clB (bytesOf (prL c (pots (poRows (pots rs))))) k.toNat tw) (Tree.leaf { v := V.tru, upd := [none], new := [] }) Tree.fail) Tree.fail)) Tree.fail)))) Tree.fail) from by kernel_rfl]
        have hz : ({ data := #[] } : ByteArray) = wNone := rfl
        rw [pots_rows, poRows_len, pots_len, h2, h3, ← h1, decide_eq_true rfl, decide_eq_true hb, hz]
        by_cases hne : chkW c n (pots rs) = wNone
        · rw [sEq_iff.2 hne]
          by_cases hk0 : k < 0
          · rw [decide_eq_true hk0]; rfl
          by_cases hk6 : k > 6
          · rw [decide_eq_false hk0, decide_eq_true hk6]; rfl
          have hlen : n = (pots rs).length := by rw [pots_len]; exact h1
          obtain ⟨g1, g2, g3, g4⟩ := good_of h2 hlen hne
          have hn0 : n ≠ 0 := fun e => g3 (List.eq_nil_of_length_eq_zero (by omega))
          have hsz := prL_size h2 h3
          obtain ⟨f, j, f1, f2, f3⟩ := ct_bad h2 hlen hne (k := k.toNat) (by omega) tw
          have hB : clB (bytesOf (prL c (pots rs))) k.toNat tw = true := by
            unfold clB
            rw [f1]
            simp only
            rw [f2, decide_eq_true f3]; rfl
          rw [decide_eq_false hk0, decide_eq_false hk6, decide_eq_false hn0, hB, decide_eq_true (show n ≤ 1000 by omega), decide_eq_true (show (0 : Int) ≤ k by omega), decide_eq_true (show k ≤ 6 by omega), decide_eq_true (show (bytesOf (prL c (pots rs))).size ≤ 400000 by omega), decide_eq_true (rfl : ((bytesOf (prL c (pots rs))).size : Int) = _)]
          rfl
        · rw [show sEq (chkW c n (pots rs)) wNone = false from Bool.eq_false_iff.2 fun e => hne (sEq_iff.1 e)]; rfl
      · simp [den_fail] at h
    · simp [den_fail] at h
  · simp [den_fail] at h
end Go.Proofs.YtkgbphheppfnaaaDoor
