/- Layer 17: the law of unlike configurations as a function. The conditions stand in the specification; the row meets them. -/
import Derived.Test.YtkgbphheppfnaaaDoorCfC
import Derived.Test.YtkgbphheppfnaaaDoorRxB
set_option linter.unusedSimpArgs false
set_option linter.unusedVariables false
set_option linter.unnecessarySimpa false
set_option linter.unusedSectionVars false
set_option maxRecDepth 100000
set_option linter.unusedSimpArgs false
set_option linter.unusedVariables false
namespace Go.Proofs.YtkgbphheppfnaaaDoor
open Go.Rx
def eqP : List Pot → List Pot → Bool
  | [], [] => true
  | x :: xs, y :: ys => Pot.eqB x y && eqP xs ys
  | _, _ => false
theorem eqP_iff : ∀ {xs ys : List Pot}, eqP xs ys = true ↔ xs = ys
  | [], [] => by simp [eqP]
  | [], y :: ys => by simp [eqP]
  | x :: xs, [] => by simp [eqP]
  | x :: xs, y :: ys => by simp [eqP, Pot.eqB_iff, eqP_iff]
theorem sa_round (a b : Cfh) (n m : Nat) (i : Int) (rs qs : List (List V)) : (evRound P (specsOf []) (loopsOf []) 80 [2, 3, 5] [4] (loopAt Tryd.f14 0) [.ptr 0 0 0 0, .ptr 1 0 0 0, .int .i64 i] [.cells (cfV a (.sl 2 0 0 6 n none)), .cells (cfV b (.sl 3 0 0 6 m none)), .rows poK rs, .rows poK qs]).den = Tree.den (Tree.ite (decide (i < (↑n : Int))) (Tree.ite (decide (0 ≤ i) && decide (i < (↑n : Int))) (Tree.ite (decide (0 + i.toNat < rs.length)) (Tree.ite (decide (0 ≤ i) && decide (i < (↑m : Int))) (Tree.ite (decide (0 + i.toNat < qs.length)) (Tree.ite (!(((V.toInt ((rs.getD (0 + i.toNat) []).getD 0 V.any)) == (V.toInt ((qs.getD (0 + i.toNat) []).getD 0 V.any))) && (((V.toInt ((rs.getD (0 + i.toNat) []).getD 1 V.any)) == (V.toInt ((qs.getD (0 + i.toNat) []).getD 1 V.any))) && (((V.toInt ((rs.getD (0 + i.toNat) []).getD 2 V.any)) == (V.toInt ((qs.getD (0 + i.toNat) []).getD 2 V.any))) && (((V.toInt ((rs.getD (0 + i.toNat) []).getD 3 V.any)) == (V.toInt ((qs.getD (0 + i.toNat) []).getD 3 V.any))) && (((V.toInt ((rs.getD (0 + i.toNat) []).getD 4 V.any)) == (V.toInt ((qs.getD (0 + i.toNat) []).getD 4 V.any))) && (((V.toInt ((rs.getD (0 + i.toNat) []).getD 5 V.any)) == (V.toInt ((qs.getD (0 + i.toNat) []).getD 5 V.any))) && true)) && true))))) (Tree.leaf { e := Ex.ret, vs := [V.fls], upd := [none, none, none, none], new := [] }) (Tree.leaf { e := Ex.nrm, vs := [V.ptr 0 0 0 0, V.ptr 1 0 0 0, V.int IntKind.i64 (IntKind.i64.wrap (i + 1))], upd := [none, none, none, none], new := [] })) Tree.fail) Tree.fail) Tree.fail) Tree.fail) (Tree.leaf { e := Ex.exit 0, vs := [V.any], upd := [none, none, none, none], new := [] })) := by
  kernel_rfl
def saR (b : Bool) : LRes := bif b then ⟨.exit 0, [.any], [none, none, none, none], []⟩ else ⟨.ret, [.fls], [none, none, none, none], []⟩
theorem sa_all {a b : Cfh} {n : Nat} {rs qs : List (List V)} (hn : n = rs.length) (hm : n = qs.length) (hb : n ≤ 1000000) : ∀ (rest k : Nat), k + rest = n →
    (loopN P (specsOf []) (loopsOf []) 80 [2, 3, 5] [4] (loopAt Tryd.f14 0) (rest + 1) [.ptr 0 0 0 0, .ptr 1 0 0 0, .int .i64 k] [.cells (cfV a (.sl 2 0 0 6 n none)), .cells (cfV b (.sl 3 0 0 6 n none)), .rows poK rs, .rows poK qs]).den = some (saR (eqP ((pots rs).drop k) ((pots qs).drop k))) := by
  intro rest
  induction rest with
  | zero =>
    intro k hk
    have hx := sa_round a b n n k rs qs
    rw [decide_eq_false (show ¬ (k : Int) < (n : Int) by omega)] at hx
    have e1 : (pots rs).drop k = [] := List.drop_eq_nil_of_le (by rw [pots_len]; omega)
    have e2 : (pots qs).drop k = [] := List.drop_eq_nil_of_le (by rw [pots_len]; omega)
    rw [e1, e2]
    exact loopN_end hx (by show Ex.exit 0 ≠ Ex.nrm; decide)
  | succ rest ih =>
    intro k hk
    have c1 : k < (pots rs).length := by rw [pots_len]; omega
    have c2 : k < (pots qs).length := by rw [pots_len]; omega
    have d1 := List.drop_eq_getElem_cons c1
    have d2 := List.drop_eq_getElem_cons c2
    have x1 := (drop_po (d := potOf []) d1).1
    have x2 := (drop_po (d := potOf []) d2).1
    rw [pots_get] at x1 x2
    have hx := sa_round a b n n k rs qs
    have w6 : IntKind.i64.wrap ((k : Int) + 1) = ((k + 1 : Nat) : Int) := by rw [wrap64_id (by omega) (by omega)]; omega
    rw [decide_eq_true (show (k : Int) < (n : Int) by omega), decide_eq_true (show (0 : Int) ≤ (k : Int) by omega), w6] at hx
    simp only [Nat.zero_add, Int.toNat_natCast] at hx
    rw [decide_eq_true (show k < rs.length by omega), decide_eq_true (show k < qs.length by omega)] at hx
    have hx : _ = (Tree.ite (!(Pot.eqB (potOf (rs.getD k [])) (potOf (qs.getD k []))))
                  (Tree.leaf (⟨Ex.ret, [V.fls], [none, none, none, none], []⟩ : LRes))
                  (Tree.leaf ⟨Ex.nrm, [V.ptr 0 0 0 0, V.ptr 1 0 0 0, V.int IntKind.i64 ((k + 1 : Nat) : Int)], [none, none, none, none], []⟩)).den := hx
    rw [x1, x2] at hx
    rw [d1, d2]
    show _ = some (saR (Pot.eqB _ _ && eqP _ _))
    cases hq : Pot.eqB (pots rs)[k] (pots qs)[k] with
    | false =>
      rw [hq] at hx
      exact loopN_end hx (by show Ex.ret ≠ Ex.nrm; decide)
    | true =>
      rw [hq] at hx
      rw [Bool.true_and]
      have ih' := ih (k + 1) (by omega)
      refine loopN_step (hx.trans rfl) rfl (vals' := [.ptr 0 0 0 0, .ptr 1 0 0 0, .int .i64 ((k + 1 : Nat) : Int)]) (bs' := [.cells (cfV a (.sl 2 0 0 6 n none)), .cells (cfV b (.sl 3 0 0 6 n none)), .rows poK rs, .rows poK qs]) (by kernel_rfl) (by kernel_rfl) (by kernel_rfl) ih' ?_
      cases eqP ((pots rs).drop (k + 1)) ((pots qs).drop (k + 1)) with
      | true => (show (seqAfter _ _ _).den = some _; kernel_rfl)
      | false => (show (seqAfter _ _ _).den = some _; kernel_rfl)
def saF (vals : List V) (bs : List Blk) : Tree LRes := match vals, bs with
  | [.ptr 0 0 0 0, .ptr 1 0 0 0, .int .i64 i], [.cells ds, .cells cs, .rows [.int .i64, .int .i64, .int .i64, .int .i64, .int .i64, .int .i64] rs, .rows [.int .i64, .int .i64, .int .i64, .int .i64, .int .i64, .int .i64] qs] =>
    match Cfh.p ds, Cfh.p cs with
    | some (a, [.sl 2 0 0 6 n none]), some (b, [.sl 3 0 0 6 m none]) => .need (decide (n = rs.length) && decide (m = qs.length) && decide (n = m) && decide (n ≤ 1000000) && decide (i = 0)) (.ite (eqP (pots rs) (pots qs)) (.leaf ⟨.exit 0, [.any], [none, none, none, none], []⟩) (.leaf ⟨.ret, [.fls], [none, none, none, none], []⟩))
    | _, _ => .fail
  | _, _ => .fail
def saL : LSpec := ⟨80, [2, 3, 5], [4], saF⟩
theorem sa_loop : LoopOK P (loopAt Tryd.f14 0) saL := by
  refine loop_ok (GammaOK.nil P) Go.Proofs.YtkgbphheppfnaaaDoor.hm (Λ := loopsOf []) (LoopsOK.nil (by kernel_rfl)) _ ?_
  intro vals bs r h
  simp only [saL, saF] at h
  split at h
  · split at h
    · rename_i i ds cs rs qs _ _ a n b m ha hb
      rw [Cfh.p_eq ha, Cfh.p_eq hb, cfV_eq, cfV_eq]
      rw [den_need, denI, denLf, denLf] at h
      simp only [Bool.and_eq_true, decide_eq_true_eq] at h
      obtain ⟨⟨⟨⟨⟨h1, h2⟩, rfl⟩, h3⟩, rfl⟩, h⟩ := h
      have := sa_all (a := a) (b := b) h1 h2 h3 n 0 (by omega)
      refine ⟨n + 1, this.trans ?_⟩
      rw [List.drop_zero, List.drop_zero]
      unfold saR
      cases he : eqP (pots rs) (pots qs) with
      | true => rw [he] at h; exact h
      | false => rw [he] at h; exact h
    · simp [den_fail] at h
  · simp [den_fail] at h
def saS : Rx.Spec := fun a b => match a with
  | [.agg ds, .agg cs] => match Cfh.p ds, Cfh.p cs with
    | some (x, [.sl 0 0 0 6 n none]), some (y, [.sl 1 0 0 6 m none]) => match b with
      | [.rows [.int .i64, .int .i64, .int .i64, .int .i64, .int .i64, .int .i64] rs, .rows [.int .i64, .int .i64, .int .i64, .int .i64, .int .i64, .int .i64] qs] => .need (decide (n = rs.length) && decide (m = qs.length) && decide (n ≤ 1000000)) (.leaf ⟨.bool (Cfh.eqB x y && eqP (pots rs) (pots qs)), [none, none], []⟩)
      | _ => .fail
    | _, _ => .fail
  | _ => .fail
theorem sa_ok : SpecOK P 14 saS := by
  refine specOK_fast (GammaOK.nil P) hm (Λ := loopsOf [(4, saL)]) Tryd.func14 (by kernel_rfl) (LoopsOK.one (by kernel_rfl) sa_loop) ?_
  intro args bs r h
  unfold saS at h
  split at h
  · split at h
    · split at h
      · rename_i ds cs _ _ x n y m hx hy _ rs qs
        rw [Cfh.p_eq hx, Cfh.p_eq hy]
        rw [den_need, denLf] at h
        simp only [Bool.and_eq_true, decide_eq_true_eq] at h
        obtain ⟨⟨⟨h1, h2⟩, h3⟩, h⟩ := h
        cases h
        rw [show (fFn P (specsOf []) (loopsOf [(4, saL)]) Tryd.f14 [.agg (x.vs ++ [.sl 0 0 0 6 n none]), .agg (y.vs ++ [.sl 1 0 0 6 m none])] [.rows poK rs, .rows poK qs]).denN = Tree.denN (Tree.ite (!(Ck.eqB x.id y.id)) (Tree.leaf { v := V.fls, upd := [none, none], new := [] }) (Tree.ite (x.2 != y.2) (Tree.leaf { v := V.fls, upd := [none, none], new := [] }) (Tree.ite (x.3 != y.3) (Tree.leaf { v := V.fls, upd := [none, none], new := [] }) (Tree.ite (x.4 != y.4) (Tree.leaf { v := V.fls, upd := [none, none], new := [] }) (Tree.ite (!(Qua.eqB x.q y.q)) (Tree.leaf { v := V.fls, upd := [none, none], new := [] }) (Tree.ite (x.6 != y.6) (Tree.leaf { v := V.fls, upd := [none, none], new := [] }) (Tree.ite (!x.7 == y.7) (Tree.leaf { v := V.fls, upd := [none, none], new := [] }) (Tree.ite ((↑n : Int) != (↑m : Int)) (Tree.leaf { v := V.fls, upd := [none, none], new := [] }) (Tree.ite (decide (n = rs.length) && decide (m = qs.length) && decide (n = m) && decide (n ≤ 1000000) && true) (Tree.ite (eqP (pots rs) (pots qs)) (Tree.leaf { v := V.tru, upd := [none, none], new := [] }) (Tree.leaf { v := V.fls, upd := [none, none], new := [] })) Tree.fail))))))))) from by kernel_rfl]
        have hnm : ((n : Int) != (m : Int)) = !decide (n = m) := by
          by_cases h : n = m
          · subst h; simp
          · rw [decide_eq_false h]; simp; omega
        have hz : decide (n = m) = false → eqP (pots rs) (pots qs) = false := fun hd => by
          refine Bool.eq_false_iff.2 fun he => of_decide_eq_false hd ?_
          have := congrArg List.length (eqP_iff.1 he)
          rw [pots_len, pots_len] at this; omega
        unfold Cfh.eqB
        rw [hnm, decide_eq_true h1, decide_eq_true h2, decide_eq_true h3]
        show (Tree.ite (!x.id.eqB y.id) _ (Tree.ite (!(x.dom == y.dom)) _ (Tree.ite (!(x.p1 == y.p1)) _ (Tree.ite (!(x.p2 == y.p2)) _ (Tree.ite (!x.q.eqB y.q) _ (Tree.ite (!(x.ppb == y.ppb)) _ _)))))).denN = _
        cases x.id.eqB y.id with
        | false => rfl
        | true =>
        cases x.dom == y.dom with
        | false => rfl
        | true =>
        cases x.p1 == y.p1 with
        | false => rfl
        | true =>
        cases x.p2 == y.p2 with
        | false => rfl
        | true =>
        cases x.q.eqB y.q with
        | false => rfl
        | true =>
        cases x.ppb == y.ppb with
        | false => rfl
        | true =>
        cases x.sl == y.sl with
        | false => rfl
        | true =>
        cases hd : decide (n = m) with
        | false => rw [hz hd]; rfl
        | true =>
        cases eqP (pots rs) (pots qs) with
        | false => rfl
        | true => rfl
      · simp [den_fail] at h
    · simp [den_fail] at h
  · simp [den_fail] at h
theorem pwA_round (c : Cfh) (n m : Nat) (N k : Int) (rs qs : List (List V)) : (evRound P (specsOf []) (loopsOf []) 44 [2, 3, 22, 23, 24] [] (loopAt Tryd.f15 0) [.ptr 0 0 0 0, .ptr 1 0 0 0, .sl 2 0 0 6 n none, .int .i64 N, .int .i64 k] [.cells zcV, .cells (cfV c (.sl 3 0 0 6 m none)), .rows poK rs, .rows poK qs]).den = Tree.den (Tree.ite (decide (k < N)) (Tree.ite (decide (0 ≤ k) && decide (k < (↑n : Int))) (Tree.ite (decide (0 + k.toNat < rs.length)) (Tree.ite (decide (0 + m ≤ qs.length) && true) (Tree.ite (decide ((List.take m (List.drop 0 qs) ++ [[V.int IntKind.i64 (V.toInt ((rs.getD (0 + k.toNat) []).getD 0 V.any)), V.int IntKind.i64 (V.toInt ((rs.getD (0 + k.toNat) []).getD 1 V.any)), V.int IntKind.i64 (V.toInt ((rs.getD (0 + k.toNat) []).getD 2 V.any)), V.int IntKind.i64 (V.toInt ((rs.getD (0 + k.toNat) []).getD 3 V.any)), V.int IntKind.i64 (V.toInt ((rs.getD (0 + k.toNat) []).getD 4 V.any)), V.int IntKind.i64 (V.toInt ((rs.getD (0 + k.toNat) []).getD 5 V.any))]]).length * 48 ≤ 140737488355328)) (Tree.leaf { e := Ex.nrm, vs := [V.ptr 0 0 0 0, V.ptr 1 0 0 0, V.sl 2 0 0 6 n none, V.int IntKind.i64 N, V.int IntKind.i64 (IntKind.i64.wrap (k + 1))], upd := [none, some (some (Body.cells [V.int IntKind.u8 c.id.1, V.int IntKind.u8 c.id.2, V.int IntKind.u8 c.id.3, V.int IntKind.u8 c.id.4, V.int IntKind.u8 c.id.5, V.int IntKind.u8 c.id.6, V.int IntKind.u8 c.id.7, V.int IntKind.u8 c.id.8, V.int IntKind.i64 c.2, V.int IntKind.i64 c.3, V.int IntKind.i64 c.4, V.int IntKind.i64 c.q.1, V.int IntKind.i64 c.q.2, V.int IntKind.i64 c.q.3, V.int IntKind.i64 c.6, V.bool c.7, V.sl 4 0 0 6 (List.take m (List.drop 0 qs) ++ [[V.int IntKind.i64 (V.toInt ((rs.getD (0 + k.toNat) []).getD 0 V.any)), V.int IntKind.i64 (V.toInt ((rs.getD (0 + k.toNat) []).getD 1 V.any)), V.int IntKind.i64 (V.toInt ((rs.getD (0 + k.toNat) []).getD 2 V.any)), V.int IntKind.i64 (V.toInt ((rs.getD (0 + k.toNat) []).getD 3 V.any)), V.int IntKind.i64 (V.toInt ((rs.getD (0 + k.toNat) []).getD 4 V.any)), V.int IntKind.i64 (V.toInt ((rs.getD (0 + k.toNat) []).getD 5 V.any))]]).length none])), none, some none], new := [Body.rows [K.int IntKind.i64, K.int IntKind.i64, K.int IntKind.i64, K.int IntKind.i64, K.int IntKind.i64, K.int IntKind.i64] (List.take m (List.drop 0 qs) ++ [[V.int IntKind.i64 (V.toInt ((rs.getD (0 + k.toNat) []).getD 0 V.any)), V.int IntKind.i64 (V.toInt ((rs.getD (0 + k.toNat) []).getD 1 V.any)), V.int IntKind.i64 (V.toInt ((rs.getD (0 + k.toNat) []).getD 2 V.any)), V.int IntKind.i64 (V.toInt ((rs.getD (0 + k.toNat) []).getD 3 V.any)), V.int IntKind.i64 (V.toInt ((rs.getD (0 + k.toNat) []).getD 4 V.any)), V.int IntKind.i64 (V.toInt ((rs.getD (0 + k.toNat) []).getD 5 V.any))]])] }) Tree.fail) Tree.fail) Tree.fail) Tree.fail) (Tree.leaf { e := Ex.exit 0, vs := [], upd := [none, none, none, none], new := [] })) := by
  kernel_rfl
theorem pwN_round (c : Cfh) (n : Nat) (N k : Int) (rs : List (List V)) : (evRound P (specsOf []) (loopsOf []) 44 [2, 3, 22, 23, 24] [] (loopAt Tryd.f15 0) [.ptr 0 0 0 0, .ptr 1 0 0 0, .sl 2 0 0 6 n none, .int .i64 N, .int .i64 k] [.cells zcV, .cells (cfV c .nils), .rows poK rs]).den = Tree.den (Tree.ite (decide (k < N)) (Tree.ite (decide (0 ≤ k) && decide (k < (↑n : Int))) (Tree.ite (decide (0 + k.toNat < rs.length)) (Tree.leaf { e := Ex.nrm, vs := [V.ptr 0 0 0 0, V.ptr 1 0 0 0, V.sl 2 0 0 6 n none, V.int IntKind.i64 N, V.int IntKind.i64 (IntKind.i64.wrap (k + 1))], upd := [none, some (some (Body.cells [V.int IntKind.u8 c.id.1, V.int IntKind.u8 c.id.2, V.int IntKind.u8 c.id.3, V.int IntKind.u8 c.id.4, V.int IntKind.u8 c.id.5, V.int IntKind.u8 c.id.6, V.int IntKind.u8 c.id.7, V.int IntKind.u8 c.id.8, V.int IntKind.i64 c.2, V.int IntKind.i64 c.3, V.int IntKind.i64 c.4, V.int IntKind.i64 c.q.1, V.int IntKind.i64 c.q.2, V.int IntKind.i64 c.q.3, V.int IntKind.i64 c.6, V.bool c.7, V.sl 3 0 0 6 1 none])), none], new := [Body.rows [K.int IntKind.i64, K.int IntKind.i64, K.int IntKind.i64, K.int IntKind.i64, K.int IntKind.i64, K.int IntKind.i64] [[V.int IntKind.i64 (V.toInt ((rs.getD (0 + k.toNat) []).getD 0 V.any)), V.int IntKind.i64 (V.toInt ((rs.getD (0 + k.toNat) []).getD 1 V.any)), V.int IntKind.i64 (V.toInt ((rs.getD (0 + k.toNat) []).getD 2 V.any)), V.int IntKind.i64 (V.toInt ((rs.getD (0 + k.toNat) []).getD 3 V.any)), V.int IntKind.i64 (V.toInt ((rs.getD (0 + k.toNat) []).getD 4 V.any)), V.int IntKind.i64 (V.toInt ((rs.getD (0 + k.toNat) []).getD 5 V.any))]]] }) Tree.fail) Tree.fail) (Tree.leaf { e := Ex.exit 0, vs := [], upd := [none, none, none], new := [] })) := by
  kernel_rfl
def pwR (c : Cfh) (qs : List (List V)) : List Pot → LRes
  | [] => ⟨.exit 0, [], [none, none, none, none], []⟩
  | x :: xs => ⟨.exit 0, [], [none, some (some (.cells (cfV c (.sl 4 0 0 6 (qs ++ poRows (x :: xs)).length none)))), none, some none], [.rows poK (qs ++ poRows (x :: xs))]⟩
theorem pwA_all {n : Nat} {c : Cfh} {rs : List (List V)} (hn : n = rs.length) (hn2 : n ≤ 1000) : ∀ (rest : List Pot) (k : Nat) (qs : List (List V)), (pots rs).drop k = rest → k + rest.length = n → qs.length = k →
    (loopN P (specsOf []) (loopsOf []) 44 [2, 3, 22, 23, 24] [] (loopAt Tryd.f15 0) (rest.length + 1) [.ptr 0 0 0 0, .ptr 1 0 0 0, .sl 2 0 0 6 n none, .int .i64 n, .int .i64 k] [.cells zcV, .cells (cfV c (.sl 3 0 0 6 qs.length none)), .rows poK rs, .rows poK qs]).den = some (pwR c qs rest) := by
  intro rest
  induction rest with
  | nil =>
    intro k qs hr hk hq
    have hx := pwA_round c n qs.length n k rs qs
    rw [decide_eq_false (show ¬ (k : Int) < (n : Int) by simp at hk; omega)] at hx
    exact loopN_end hx (by show Ex.exit 0 ≠ Ex.nrm; decide)
  | cons x xs ih =>
    intro k qs hr hk hq
    simp only [List.length_cons] at hk
    obtain ⟨hx, hd⟩ := drop_po (d := potOf []) hr
    rw [pots_get] at hx
    have e0 : V.toInt ((rs.getD k []).getD 0 V.any) = x.ev := by rw [← hx]; rfl
    have e1 : V.toInt ((rs.getD k []).getD 1 V.any) = x.of_ := by rw [← hx]; rfl
    have e2 : V.toInt ((rs.getD k []).getD 2 V.any) = x.ask := by rw [← hx]; rfl
    have e3 : V.toInt ((rs.getD k []).getD 3 V.any) = x.pa.mn := by rw [← hx]; rfl
    have e4 : V.toInt ((rs.getD k []).getD 4 V.any) = x.pa.mx := by rw [← hx]; rfl
    have e5 : V.toInt ((rs.getD k []).getD 5 V.any) = x.pa.gr := by rw [← hx]; rfl
    have st := pwA_round c n qs.length n k rs qs
    have w6 : IntKind.i64.wrap ((k : Int) + 1) = ((k + 1 : Nat) : Int) := by rw [wrap64_id (by omega) (by omega)]; omega
    simp only [Nat.zero_add, Int.toNat_natCast, e0, e1, e2, e3, e4, e5, w6, List.drop_zero, List.take_length] at st
    have hl : (qs ++ [poRow x]).length * 48 ≤ 140737488355328 := by simp; omega
    have st' : (evRound P (specsOf []) (loopsOf []) 44 [2, 3, 22, 23, 24] [] (loopAt Tryd.f15 0) [.ptr 0 0 0 0, .ptr 1 0 0 0, .sl 2 0 0 6 n none, .int .i64 n, .int .i64 k] [.cells zcV, .cells (cfV c (.sl 3 0 0 6 qs.length none)), .rows poK rs, .rows poK qs]).den =
        some ⟨.nrm, [.ptr 0 0 0 0, .ptr 1 0 0 0, .sl 2 0 0 6 n none, .int .i64 n, .int .i64 ((k + 1 : Nat) : Int)], [none, some (some (.cells (cfV c (.sl 4 0 0 6 (qs ++ [poRow x]).length none)))), none, some none], [.rows poK (qs ++ [poRow x])]⟩ := by
      refine st.trans ?_
      rw [decide_eq_true (show (k : Int) < (n : Int) by omega), decide_eq_true (show (0 : Int) ≤ k by omega), decide_eq_true (show k < rs.length by omega), decide_eq_true (Nat.le_refl qs.length)]
      have hl' : (qs ++ [[V.int IntKind.i64 x.ev, V.int IntKind.i64 x.of_, V.int IntKind.i64 x.ask, V.int IntKind.i64 x.pa.mn, V.int IntKind.i64 x.pa.mx, V.int IntKind.i64 x.pa.gr]]).length * 48 ≤ 140737488355328 := hl
      rw [decide_eq_true hl']
      rfl
    clear st
    have ih' := ih (k + 1) (qs ++ [poRow x]) hd (by omega) (by simp; omega)
    refine loopN_step st' rfl (vals' := [.ptr 0 0 0 0, .ptr 1 0 0 0, .sl 2 0 0 6 n none, .int .i64 n, .int .i64 ((k + 1 : Nat) : Int)]) (bs' := [.cells zcV, .cells (cfV c (.sl 3 0 0 6 (qs ++ [poRow x]).length none)), .rows poK rs, .rows poK (qs ++ [poRow x])]) (by kernel_rfl) (by kernel_rfl) (by kernel_rfl) ih' ?_
    cases xs with
    | nil =>
      rw [pwR, pwR, show qs ++ poRows [x] = qs ++ [poRow x] from rfl]
      (show (seqAfter _ _ _).den = some _; kernel_rfl)
    | cons y ys =>
      rw [pwR, pwR, show qs ++ poRows (x :: y :: ys) = (qs ++ [poRow x]) ++ poRows (y :: ys) by simp [poRows]]
      (show (seqAfter _ _ _).den = some _; kernel_rfl)
def pwF (vals : List V) (bs : List Blk) : Tree LRes := match vals, bs with
  | [.ptr 0 0 0 0, .ptr 1 0 0 0, .sl 2 0 0 6 n none, .int .i64 N, .int .i64 k], [.cells [.int .u8 0, .int .u8 0, .int .u8 0, .int .u8 0, .int .u8 0, .int .u8 0, .int .u8 0, .int .u8 0, .int .i64 0, .int .i64 0, .int .i64 0, .int .i64 0, .int .i64 0, .int .i64 0, .int .i64 0, .fls, .nils], .cells cs, .rows [.int .i64, .int .i64, .int .i64, .int .i64, .int .i64, .int .i64] rs] =>
    match Cfh.p cs with
    | some (c, [.nils]) => .need (decide (n = rs.length) && decide (N = n) && decide (k = 0) && decide (n ≤ 1000)) (.ite (decide (n = 0)) (.leaf ⟨.exit 0, [], [none, none, none], []⟩) (.leaf ⟨.exit 0, [], [none, some (some (.cells (cfV c (.sl 3 0 0 6 n none)))), none], [.rows [.int .i64, .int .i64, .int .i64, .int .i64, .int .i64, .int .i64] (poRows (pots rs))]⟩))
    | _ => .fail
  | _, _ => .fail
def pwL : LSpec := ⟨44, [2, 3, 22, 23, 24], [], pwF⟩
theorem pw_loop : LoopOK P (loopAt Tryd.f15 0) pwL := by
  refine loop_ok (GammaOK.nil P) Go.Proofs.YtkgbphheppfnaaaDoor.hm (Λ := loopsOf []) (LoopsOK.nil (by kernel_rfl)) _ ?_
  intro vals bs r h
  simp only [pwL, pwF] at h
  split at h
  · split at h
    · rename_i n N k cs rs _ c hc
      rw [Cfh.p_eq hc, cfV_eq]
      rw [den_need, denI, denLf, denLf] at h
      simp only [Bool.and_eq_true, decide_eq_true_eq] at h
      obtain ⟨⟨⟨⟨h1, rfl⟩, rfl⟩, h3⟩, h⟩ := h
      have hpl := pots_len rs
      refine ⟨(pots rs).length + 1, ?_⟩
      by_cases h0 : n = 0
      · rw [if_pos h0] at h; cases h
        have hz : (pots rs).length + 1 = 0 + 1 := by omega
        rw [hz]
        have hx := pwN_round c n n 0 rs
        rw [decide_eq_false (show ¬ (0 : Int) < (n : Int) by omega)] at hx
        exact loopN_end hx (by show Ex.exit 0 ≠ Ex.nrm; decide)
      · rw [if_neg h0] at h; cases h
        cases hls : pots rs with
        | nil => rw [hls] at hpl; simp at hpl; omega
        | cons x xs =>
        obtain ⟨hx, hd⟩ := drop_po (ls := pots rs) (k := 0) (d := potOf []) hls
        rw [pots_get] at hx
        rw [hls] at hpl
        simp only [List.length_cons] at hpl
        have e0 : V.toInt ((rs.getD 0 []).getD 0 V.any) = x.ev := by rw [← hx]; rfl
        have e1 : V.toInt ((rs.getD 0 []).getD 1 V.any) = x.of_ := by rw [← hx]; rfl
        have e2 : V.toInt ((rs.getD 0 []).getD 2 V.any) = x.ask := by rw [← hx]; rfl
        have e3 : V.toInt ((rs.getD 0 []).getD 3 V.any) = x.pa.mn := by rw [← hx]; rfl
        have e4 : V.toInt ((rs.getD 0 []).getD 4 V.any) = x.pa.mx := by rw [← hx]; rfl
        have e5 : V.toInt ((rs.getD 0 []).getD 5 V.any) = x.pa.gr := by rw [← hx]; rfl
        have st := pwN_round c n n 0 rs
        have w6 : IntKind.i64.wrap ((0 : Int) + 1) = ((1 : Nat) : Int) := by rw [wrap64_id (by omega) (by omega)]; omega
        simp only [Nat.zero_add, Int.toNat_zero, e0, e1, e2, e3, e4, e5, w6] at st
        have st' : (evRound P (specsOf []) (loopsOf []) 44 [2, 3, 22, 23, 24] [] (loopAt Tryd.f15 0) [.ptr 0 0 0 0, .ptr 1 0 0 0, .sl 2 0 0 6 n none, .int .i64 n, .int .i64 0] [.cells zcV, .cells (cfV c .nils), .rows poK rs]).den =
            some ⟨.nrm, [.ptr 0 0 0 0, .ptr 1 0 0 0, .sl 2 0 0 6 n none, .int .i64 n, .int .i64 ((1 : Nat) : Int)], [none, some (some (.cells (cfV c (.sl 3 0 0 6 1 none)))), none], [.rows poK [poRow x]]⟩ := by
          refine st.trans ?_
          rw [decide_eq_true (show (0 : Int) < (n : Int) by omega), decide_eq_true (show 0 < rs.length by omega)]
          rfl
        clear st
        have ih' := pwA_all (c := c) h1 h3 xs 1 [poRow x] hd (by omega) rfl
        refine loopN_step st' rfl (vals' := [.ptr 0 0 0 0, .ptr 1 0 0 0, .sl 2 0 0 6 n none, .int .i64 n, .int .i64 ((1 : Nat) : Int)]) (bs' := [.cells zcV, .cells (cfV c (.sl 3 0 0 6 [poRow x].length none)), .rows poK rs, .rows poK [poRow x]]) (by kernel_rfl) (by kernel_rfl) (by kernel_rfl) ih' ?_
        have hn' : n = (poRows (x :: xs)).length := by rw [poRows_len]; simp; omega
        cases xs with
        | nil =>
          have : n = 1 := hn'
          rw [this]
          (show (seqAfter _ _ _).den = some _; kernel_rfl)
        | cons y ys =>
          rw [show V.sl 3 0 0 6 n none = V.sl 3 0 0 6 (poRows (x :: y :: ys)).length none by rw [← hn'], pwR, show [poRow x] ++ poRows (y :: ys) = poRows (x :: y :: ys) from rfl]
          (show (seqAfter _ _ _).den = some _; kernel_rfl)
    · simp [den_fail] at h
  · simp [den_fail] at h
def pwS : Rx.Spec := fun a b => match a with
  | [.agg cs] => match Cfh.p cs with
    | some (c, [.sl 0 0 0 6 n none]) => match b with
      | [.rows [.int .i64, .int .i64, .int .i64, .int .i64, .int .i64, .int .i64] rs] => .need (decide (n = rs.length) && decide (n ≤ 1000)) (.ite (decide (n = 0)) (.leaf ⟨.agg (c.vs ++ [.nils]), [none], []⟩) (.leaf ⟨.agg (c.vs ++ [.sl 1 0 0 6 n none]), [none], [.rows [.int .i64, .int .i64, .int .i64, .int .i64, .int .i64, .int .i64] (poRows (pots rs))]⟩))
      | _ => .fail
    | _ => .fail
  | _ => .fail
theorem pw_ok : SpecOK P 15 pwS := by
  refine specOK_fast (GammaOK.nil P) hm (Λ := loopsOf [(3, pwL)]) Tryd.func15 (by kernel_rfl) (LoopsOK.one (by kernel_rfl) pw_loop) ?_
  intro args bs r h
  unfold pwS at h
  split at h
  · split at h
    · split at h
      · rename_i cs _ c n hc _ rs
        rw [Cfh.p_eq hc]
        rw [den_need, denI, denLf, denLf] at h
        simp only [Bool.and_eq_true, decide_eq_true_eq] at h
        obtain ⟨⟨h1, h2⟩, h⟩ := h
        rw [show (fFn P (specsOf []) (loopsOf [(3, pwL)]) Tryd.f15 [.agg (c.vs ++ [.sl 0 0 0 6 n none])] [.rows poK rs]).denN = Tree.denN (Tree.ite (decide (n = rs.length) && decide ((↑n : Int) = (↑n : Int)) && true && decide (n ≤ 1000)) (Tree.ite (decide (n = 0)) (Tree.leaf { v := V.agg [V.int IntKind.u8 c.id.1, V.int IntKind.u8 c.id.2, V.int IntKind.u8 c.id.3, V.int IntKind.u8 c.id.4, V.int IntKind.u8 c.id.5, V.int IntKind.u8 c.id.6, V.int IntKind.u8 c.id.7, V.int IntKind.u8 c.id.8, V.int IntKind.i64 c.2, V.int IntKind.i64 c.3, V.int IntKind.i64 c.4, V.int IntKind.i64 c.q.1, V.int IntKind.i64 c.q.2, V.int IntKind.i64 c.q.3, V.int IntKind.i64 c.6, V.bool c.7, V.nils], upd := [none], new := [] }) (Tree.leaf { v := V.agg [V.int IntKind.u8 c.id.1, V.int IntKind.u8 c.id.2, V.int IntKind.u8 c.id.3, V.int IntKind.u8 c.id.4, V.int IntKind.u8 c.id.5, V.int IntKind.u8 c.id.6, V.int IntKind.u8 c.id.7, V.int IntKind.u8 c.id.8, V.int IntKind.i64 c.2, V.int IntKind.i64 c.3, V.int IntKind.i64 c.4, V.int IntKind.i64 c.q.1, V.int IntKind.i64 c.q.2, V.int IntKind.i64 c.q.3, V.int IntKind.i64 c.6, V.bool c.7, V.sl 1 0 0 6 n none], upd := [none], new := [Body.rows [K.int IntKind.i64, K.int IntKind.i64, K.int IntKind.i64, K.int IntKind.i64, K.int IntKind.i64, K.int IntKind.i64] (poRows (pots rs))] })) Tree.fail) from by kernel_rfl]
        simp only [denN_ite, denN_leaf, denN_fail, decide_eq_true h1, decide_eq_true h2, decide_true]
        by_cases h0 : n = 0
        · rw [if_pos h0] at h; cases h
          rw [decide_eq_true h0]; rfl
        · rw [if_neg h0] at h; cases h
          rw [decide_eq_false h0]; rfl
      · simp [den_fail] at h
    · simp [den_fail] at h
  · simp [den_fail] at h
end Go.Proofs.YtkgbphheppfnaaaDoor

set_option maxRecDepth 100000
set_option linter.unusedSimpArgs false
set_option linter.unusedVariables false
namespace Go.Proofs.YtkgbphheppfnaaaDoor
open Go.Rx
def smpB : ByteArray := ⟨#[99, 108, 111, 99, 107, 32, 48, 48, 48, 48, 48, 48, 48, 48, 48, 48, 48, 48, 48, 48, 48, 49, 10, 100, 111, 109, 97, 105, 110, 32, 48, 10, 112, 114, 105, 111, 114, 105, 116, 121, 32, 49, 50, 56, 32, 49, 50, 56, 10, 99, 108, 97, 115, 115, 32, 50, 52, 56, 10, 97, 99, 99, 117, 114, 97, 99, 121, 32, 51, 51, 10, 118, 97, 114, 105, 97, 110, 99, 101, 32, 53, 10, 112, 112, 98, 32, 49, 48, 48, 48, 10, 112, 111, 114, 116, 32, 49, 48, 48, 48, 48, 48, 48, 32, 51, 32, 49, 48, 48, 48, 48, 48, 48, 32, 49, 48, 32, 50, 48, 32, 48, 10]⟩
def smS : Rx.Spec := fun a b => match a, b with
  | [], [] => .leaf ⟨.str smpB, [], []⟩
  | _, _ => .fail
theorem sm_ok : SpecOK P 16 smS := by
  refine specOK_fast (GammaOK.nil P) hm (Λ := loopsOf []) Tryd.func16 (by kernel_rfl) (LoopsOK.nil (by kernel_rfl)) ?_
  intro args bs r h
  unfold smS at h
  split at h
  · rw [denLf] at h; cases h
    kernel_rfl
  · simp [den_fail] at h
noncomputable abbrev avG : List (Nat × Rx.Spec) := [(16, smS), (13, psS), (8, Rx.Spec.N chS)]
theorem avG_ok : GammaOK P avG := .cons sm_ok (.cons ps_ok (.cons ck_ok.N (.nil P)))
def avS : Rx.Spec := fun a b => match a, b with
  | [], [] => .leaf ⟨.tru, [], []⟩
  | _, _ => .fail
theorem av_ok : SpecOK P 7 avS := by
  refine specOK_fast avG_ok hm (Λ := loopsOf []) Tryd.func7 (by kernel_rfl) (LoopsOK.nil (by kernel_rfl)) ?_
  intro args bs r h
  unfold avS at h
  split at h
  · rw [denLf] at h; cases h
    rw [show (fFn P (specsOf avG) (loopsOf []) Tryd.f7 [] []).denN = Tree.denN (Tree.leaf { v := V.bool true, upd := [], new := [] }) from by kernel_rfl]
    rfl
  · simp [den_fail] at h
end Go.Proofs.YtkgbphheppfnaaaDoor

set_option maxRecDepth 100000
set_option linter.unusedSimpArgs false
set_option linter.unusedVariables false
namespace Go.Proofs.YtkgbphheppfnaaaDoor
open Go.Rx
theorem sb_round (a b : Cfh) (n m : Nat) (i : Int) (rs qs : List (List V)) : (evRound P (specsOf []) (loopsOf []) 80 [2, 3, 5] [4] (loopAt Tryd.f14 0) [.ptr 0 0 0 0, .ptr 1 0 0 0, .int .i64 i] [.cells (cfV a (.sl 2 0 0 6 n none)), .cells (cfV b (.sl 3 0 0 6 m none)), .look poK rs, .look poK qs]).den = Tree.den (Tree.ite (decide (i < (↑n : Int))) (Tree.ite (decide (0 ≤ i) && decide (i < (↑n : Int))) (Tree.ite (decide (0 + i.toNat < rs.length)) (Tree.ite (decide (0 ≤ i) && decide (i < (↑m : Int))) (Tree.ite (decide (0 + i.toNat < qs.length)) (Tree.ite (!(((V.toInt ((rs.getD (0 + i.toNat) []).getD 0 V.any)) == (V.toInt ((qs.getD (0 + i.toNat) []).getD 0 V.any))) && (((V.toInt ((rs.getD (0 + i.toNat) []).getD 1 V.any)) == (V.toInt ((qs.getD (0 + i.toNat) []).getD 1 V.any))) && (((V.toInt ((rs.getD (0 + i.toNat) []).getD 2 V.any)) == (V.toInt ((qs.getD (0 + i.toNat) []).getD 2 V.any))) && (((V.toInt ((rs.getD (0 + i.toNat) []).getD 3 V.any)) == (V.toInt ((qs.getD (0 + i.toNat) []).getD 3 V.any))) && (((V.toInt ((rs.getD (0 + i.toNat) []).getD 4 V.any)) == (V.toInt ((qs.getD (0 + i.toNat) []).getD 4 V.any))) && (((V.toInt ((rs.getD (0 + i.toNat) []).getD 5 V.any)) == (V.toInt ((qs.getD (0 + i.toNat) []).getD 5 V.any))) && true)) && true))))) (Tree.leaf { e := Ex.ret, vs := [V.fls], upd := [none, none, none, none], new := [] }) (Tree.leaf { e := Ex.nrm, vs := [V.ptr 0 0 0 0, V.ptr 1 0 0 0, V.int IntKind.i64 (IntKind.i64.wrap (i + 1))], upd := [none, none, none, none], new := [] })) Tree.fail) Tree.fail) Tree.fail) Tree.fail) (Tree.leaf { e := Ex.exit 0, vs := [V.any], upd := [none, none, none, none], new := [] })) := by
  kernel_rfl
def sbR (b : Bool) : LRes := bif b then ⟨.exit 0, [.any], [none, none, none, none], []⟩ else ⟨.ret, [.fls], [none, none, none, none], []⟩
theorem sb_all {a b : Cfh} {n : Nat} {rs qs : List (List V)} (hn : n = rs.length) (hm : n = qs.length) (hb : n ≤ 1000000) : ∀ (rest k : Nat), k + rest = n →
    (loopN P (specsOf []) (loopsOf []) 80 [2, 3, 5] [4] (loopAt Tryd.f14 0) (rest + 1) [.ptr 0 0 0 0, .ptr 1 0 0 0, .int .i64 k] [.cells (cfV a (.sl 2 0 0 6 n none)), .cells (cfV b (.sl 3 0 0 6 n none)), .look poK rs, .look poK qs]).den = some (sbR (eqP ((pots rs).drop k) ((pots qs).drop k))) := by
  intro rest
  induction rest with
  | zero =>
    intro k hk
    have hx := sb_round a b n n k rs qs
    rw [decide_eq_false (show ¬ (k : Int) < (n : Int) by omega)] at hx
    have e1 : (pots rs).drop k = [] := List.drop_eq_nil_of_le (by rw [pots_len]; omega)
    have e2 : (pots qs).drop k = [] := List.drop_eq_nil_of_le (by rw [pots_len]; omega)
    rw [e1, e2]
    exact loopN_end hx (by show Ex.exit 0 ≠ Ex.nrm; decide)
  | succ rest ih =>
    intro k hk
    have c1 : k < (pots rs).length := by rw [pots_len]; omega
    have c2 : k < (pots qs).length := by rw [pots_len]; omega
    have d1 := List.drop_eq_getElem_cons c1
    have d2 := List.drop_eq_getElem_cons c2
    have x1 := (drop_po (d := potOf []) d1).1
    have x2 := (drop_po (d := potOf []) d2).1
    rw [pots_get] at x1 x2
    have hx := sb_round a b n n k rs qs
    have w6 : IntKind.i64.wrap ((k : Int) + 1) = ((k + 1 : Nat) : Int) := by rw [wrap64_id (by omega) (by omega)]; omega
    rw [decide_eq_true (show (k : Int) < (n : Int) by omega), decide_eq_true (show (0 : Int) ≤ (k : Int) by omega), w6] at hx
    simp only [Nat.zero_add, Int.toNat_natCast] at hx
    rw [decide_eq_true (show k < rs.length by omega), decide_eq_true (show k < qs.length by omega)] at hx
    have hx : _ = (Tree.ite (!(Pot.eqB (potOf (rs.getD k [])) (potOf (qs.getD k []))))
                  (Tree.leaf (⟨Ex.ret, [V.fls], [none, none, none, none], []⟩ : LRes))
                  (Tree.leaf ⟨Ex.nrm, [V.ptr 0 0 0 0, V.ptr 1 0 0 0, V.int IntKind.i64 ((k + 1 : Nat) : Int)], [none, none, none, none], []⟩)).den := hx
    rw [x1, x2] at hx
    rw [d1, d2]
    show _ = some (sbR (Pot.eqB _ _ && eqP _ _))
    cases hq : Pot.eqB (pots rs)[k] (pots qs)[k] with
    | false =>
      rw [hq] at hx
      exact loopN_end hx (by show Ex.ret ≠ Ex.nrm; decide)
    | true =>
      rw [hq] at hx
      rw [Bool.true_and]
      have ih' := ih (k + 1) (by omega)
      refine loopN_step (hx.trans rfl) rfl (vals' := [.ptr 0 0 0 0, .ptr 1 0 0 0, .int .i64 ((k + 1 : Nat) : Int)]) (bs' := [.cells (cfV a (.sl 2 0 0 6 n none)), .cells (cfV b (.sl 3 0 0 6 n none)), .look poK rs, .look poK qs]) (by kernel_rfl) (by kernel_rfl) (by kernel_rfl) ih' ?_
      cases eqP ((pots rs).drop (k + 1)) ((pots qs).drop (k + 1)) with
      | true => (show (seqAfter _ _ _).den = some _; kernel_rfl)
      | false => (show (seqAfter _ _ _).den = some _; kernel_rfl)
def sbF (vals : List V) (bs : List Blk) : Tree LRes := match vals, bs with
  | [.ptr 0 0 0 0, .ptr 1 0 0 0, .int .i64 i], [.cells ds, .cells cs, .look [.int .i64, .int .i64, .int .i64, .int .i64, .int .i64, .int .i64] rs, .look [.int .i64, .int .i64, .int .i64, .int .i64, .int .i64, .int .i64] qs] =>
    match Cfh.p ds, Cfh.p cs with
    | some (a, [.sl 2 0 0 6 n none]), some (b, [.sl 3 0 0 6 m none]) => .need (decide (n = rs.length) && decide (m = qs.length) && decide (n = m) && decide (n ≤ 1000000) && decide (i = 0)) (.ite (eqP (pots rs) (pots qs)) (.leaf ⟨.exit 0, [.any], [none, none, none, none], []⟩) (.leaf ⟨.ret, [.fls], [none, none, none, none], []⟩))
    | _, _ => .fail
  | _, _ => .fail
def sbL : LSpec := ⟨80, [2, 3, 5], [4], sbF⟩
theorem sb_loop : LoopOK P (loopAt Tryd.f14 0) sbL := by
  refine loop_ok (GammaOK.nil P) Go.Proofs.YtkgbphheppfnaaaDoor.hm (Λ := loopsOf []) (LoopsOK.nil (by kernel_rfl)) _ ?_
  intro vals bs r h
  simp only [sbL, sbF] at h
  split at h
  · split at h
    · rename_i i ds cs rs qs _ _ a n b m ha hb
      rw [Cfh.p_eq ha, Cfh.p_eq hb, cfV_eq, cfV_eq]
      rw [den_need, denI, denLf, denLf] at h
      simp only [Bool.and_eq_true, decide_eq_true_eq] at h
      obtain ⟨⟨⟨⟨⟨h1, h2⟩, rfl⟩, h3⟩, rfl⟩, h⟩ := h
      have := sb_all (a := a) (b := b) h1 h2 h3 n 0 (by omega)
      refine ⟨n + 1, this.trans ?_⟩
      rw [List.drop_zero, List.drop_zero]
      unfold sbR
      cases he : eqP (pots rs) (pots qs) with
      | true => rw [he] at h; exact h
      | false => rw [he] at h; exact h
    · simp [den_fail] at h
  · simp [den_fail] at h
def sbS : Rx.Spec := fun a b => match a with
  | [.agg ds, .agg cs] => match Cfh.p ds, Cfh.p cs with
    | some (x, [.sl 0 0 0 6 n none]), some (y, [.sl 1 0 0 6 m none]) => match b with
      | [.look [.int .i64, .int .i64, .int .i64, .int .i64, .int .i64, .int .i64] rs, .look [.int .i64, .int .i64, .int .i64, .int .i64, .int .i64, .int .i64] qs] => .need (decide (n = rs.length) && decide (m = qs.length) && decide (n ≤ 1000000)) (.leaf ⟨.bool (Cfh.eqB x y && eqP (pots rs) (pots qs)), [none, none], []⟩)
      | _ => .fail
    | _, _ => .fail
  | _ => .fail
theorem sb_ok : SpecOK P 14 sbS := by
  refine specOK_fast (GammaOK.nil P) hm (Λ := loopsOf [(4, sbL)]) Tryd.func14 (by kernel_rfl) (LoopsOK.one (by kernel_rfl) sb_loop) ?_
  intro args bs r h
  unfold sbS at h
  split at h
  · split at h
    · split at h
      · rename_i ds cs _ _ x n y m hx hy _ rs qs
        rw [Cfh.p_eq hx, Cfh.p_eq hy]
        rw [den_need, denLf] at h
        simp only [Bool.and_eq_true, decide_eq_true_eq] at h
        obtain ⟨⟨⟨h1, h2⟩, h3⟩, h⟩ := h
        cases h
        rw [show (fFn P (specsOf []) (loopsOf [(4, sbL)]) Tryd.f14 [.agg (x.vs ++ [.sl 0 0 0 6 n none]), .agg (y.vs ++ [.sl 1 0 0 6 m none])] [.look poK rs, .look poK qs]).denN = Tree.denN (Tree.ite (!(Ck.eqB x.id y.id)) (Tree.leaf { v := V.fls, upd := [none, none], new := [] }) (Tree.ite (x.2 != y.2) (Tree.leaf { v := V.fls, upd := [none, none], new := [] }) (Tree.ite (x.3 != y.3) (Tree.leaf { v := V.fls, upd := [none, none], new := [] }) (Tree.ite (x.4 != y.4) (Tree.leaf { v := V.fls, upd := [none, none], new := [] }) (Tree.ite (!(Qua.eqB x.q y.q)) (Tree.leaf { v := V.fls, upd := [none, none], new := [] }) (Tree.ite (x.6 != y.6) (Tree.leaf { v := V.fls, upd := [none, none], new := [] }) (Tree.ite (!x.7 == y.7) (Tree.leaf { v := V.fls, upd := [none, none], new := [] }) (Tree.ite ((↑n : Int) != (↑m : Int)) (Tree.leaf { v := V.fls, upd := [none, none], new := [] }) (Tree.ite (decide (n = rs.length) && decide (m = qs.length) && decide (n = m) && decide (n ≤ 1000000) && true) (Tree.ite (eqP (pots rs) (pots qs)) (Tree.leaf { v := V.tru, upd := [none, none], new := [] }) (Tree.leaf { v := V.fls, upd := [none, none], new := [] })) Tree.fail))))))))) from by kernel_rfl]
        have hnm : ((n : Int) != (m : Int)) = !decide (n = m) := by
          by_cases h : n = m
          · subst h; simp
          · rw [decide_eq_false h]; simp; omega
        have hz : decide (n = m) = false → eqP (pots rs) (pots qs) = false := fun hd => by
          refine Bool.eq_false_iff.2 fun he => of_decide_eq_false hd ?_
          have := congrArg List.length (eqP_iff.1 he)
          rw [pots_len, pots_len] at this; omega
        unfold Cfh.eqB
        rw [hnm, decide_eq_true h1, decide_eq_true h2, decide_eq_true h3]
        show (Tree.ite (!x.id.eqB y.id) _ (Tree.ite (!(x.dom == y.dom)) _ (Tree.ite (!(x.p1 == y.p1)) _ (Tree.ite (!(x.p2 == y.p2)) _ (Tree.ite (!x.q.eqB y.q) _ (Tree.ite (!(x.ppb == y.ppb)) _ _)))))).denN = _
        cases x.id.eqB y.id with
        | false => rfl
        | true =>
        cases x.dom == y.dom with
        | false => rfl
        | true =>
        cases x.p1 == y.p1 with
        | false => rfl
        | true =>
        cases x.p2 == y.p2 with
        | false => rfl
        | true =>
        cases x.q.eqB y.q with
        | false => rfl
        | true =>
        cases x.ppb == y.ppb with
        | false => rfl
        | true =>
        cases x.sl == y.sl with
        | false => rfl
        | true =>
        cases hd : decide (n = m) with
        | false => rw [hz hd]; rfl
        | true =>
        cases eqP (pots rs) (pots qs) with
        | false => rfl
        | true => rfl
      · simp [den_fail] at h
    · simp [den_fail] at h
  · simp [den_fail] at h
theorem cfR_len' (c : Cfh) (ps : List Pot) : 7 ≤ (cfR c ps).length := by
  unfold cfR; rw [List.length_append]; show 7 ≤ 7 + _; omega
theorem txR_last {R : List (List (List UInt8))} (h : R ≠ []) : ∃ A, txR R = A ++ [10] := by
  rw [← List.dropLast_concat_getLast h, txR_app, txR_cons]
  exact ⟨txR R.dropLast ++ joinU 32 (R.getLast h), by simp [txR, txtU]⟩
/-- A configuration's text is one of lines that end. -/
theorem prL_last (c : Cfh) (ps : List Pot) : 1 ≤ (bytesOf (prL c ps)).size ∧ sAt (bytesOf (prL c ps)) ((bytesOf (prL c ps)).size - 1) = 10 := by
  rw [prL_tx]
  obtain ⟨A, hA⟩ := txR_last (R := cfR c ps) (fun e => by have := cfR_len' c ps; rw [e] at this; simp at this)
  rw [hA]
  refine ⟨by rw [toB_size]; simp, ?_⟩
  unfold sAt
  rw [toB_size, toB_data, List.length_append, List.length_singleton, Nat.add_sub_cancel, List.getD_eq_getElem?_getD, List.getElem?_append_right (Nat.le_refl _), Nat.sub_self]
  rfl
theorem same_eq {x y : Cfh} (hx : cfI x = true) (hy : cfI y = true) {ps qs : List Pot} (hp : ps.all potI = true) (hq : qs.all potI = true) : (sEq (bytesOf (prL x ps)) (bytesOf (prL y qs)) == (x.eqB y && eqP ps qs)) = true := by
  rw [beq_iff_eq, Bool.eq_iff_iff, sEq_iff, Bool.and_eq_true, Cfh.eqB_iff, eqP_iff]
  constructor
  · exact fun h => prL_inj hx hy hp hq h
  · rintro ⟨rfl, rfl⟩; rfl
noncomputable abbrev cuG : List (Nat × Rx.Spec) := [(7, avS), (9, Rx.Spec.L owS), (11, Rx.Spec.N prtS), (14, sbS)]
theorem cuG_ok : GammaOK P cuG := .cons av_ok (.cons ow_ok.L (.cons prt_ok.N (.cons sb_ok (.nil P))))
def cuS : Rx.Spec := fun a b => match a with
  | [.agg ds, .agg cs] => match Cfh.p ds, Cfh.p cs with
    | some (x, [.sl 0 0 0 6 n none]), some (y, [.sl 1 0 0 6 m none]) => match b with
      | [.look [.int .i64, .int .i64, .int .i64, .int .i64, .int .i64, .int .i64] rs, .look [.int .i64, .int .i64, .int .i64, .int .i64, .int .i64, .int .i64] qs] => .need (decide (n = rs.length) && decide (m = qs.length) && (cfI x && cfI y && (pots rs).all potI && (pots qs).all potI)) (.leaf ⟨.bool true, [none, none], []⟩)
      | _ => .fail
    | _, _ => .fail
  | _ => .fail
theorem cu_ok : SpecOK P 6 cuS := by
  refine specOK_fast cuG_ok hm (Λ := loopsOf []) Tryd.func6 (by kernel_rfl) (LoopsOK.nil (by kernel_rfl)) ?_
  intro args bs r h
  unfold cuS at h
  split at h
  · split at h
    · split at h
      · rename_i ds cs _ _ x n y m hx hy _ rs qs
        rw [Cfh.p_eq hx, Cfh.p_eq hy]
        rw [den_need, denLf] at h
        simp only [Bool.and_eq_true, decide_eq_true_eq] at h
        obtain ⟨⟨⟨h1, h2⟩, ⟨⟨h3, h4⟩, h5⟩, h6⟩, h⟩ := h
        cases h
        rw [show (fFn P (specsOf cuG) (loopsOf []) Tryd.f6 [.agg (x.vs ++ [.sl 0 0 0 6 n none]), .agg (y.vs ++ [.sl 1 0 0 6 m none])] [.look poK rs, .look poK qs]).denN = Tree.denN (Tree.ite (decide ((↑n : Int) > 100)) (Tree.leaf { v := V.tru, upd := [none, none], new := [] }) (Tree.ite (decide ((↑m : Int) > 100)) (Tree.leaf { v := V.tru, upd := [none, none], new := [] }) (Tree.ite (decide (n = rs.length) && decide (n ≤ 1000)) (Tree.ite (decide (n = 0)) (Tree.ite (cfI x) (Tree.ite (decide (m = qs.length) && decide (m ≤ 1000)) (Tree.ite (decide (m = 0)) (Tree.ite (cfI y) (Tree.ite (decide (n = rs.length) && decide (m = qs.length) && decide (n ≤ 1000000)) (Tree.ite (sEq (bytesOf (prL x [])) (bytesOf (prL y [])) == (Cfh.eqB x y && eqP (pots rs) (pots qs))) (Tree.ite (decide (0 ≤ IntKind.i64.wrap ((↑(bytesOf (prL x [])).size : Int) - 1)) && decide (IntKind.i64.wrap ((↑(bytesOf (prL x [])).size : Int) - 1) < (↑(bytesOf (prL x [])).size : Int))) (Tree.leaf { v := V.bool (sAt (bytesOf (prL x [])) (IntKind.i64.wrap ((↑(bytesOf (prL x [])).size : Int) - 1)).toNat == 10), upd := [none, none], new := [] }) Tree.fail) (Tree.leaf { v := V.fls, upd := [none, none], new := [] })) Tree.fail) Tree.fail) (Tree.ite (decide (m = (poRows (pots qs)).length) && decide (m ≤ 1000) && cfI y && (pots (poRows (pots qs))).all potI) (Tree.ite (decide (n = rs.length) && decide (m = qs.length) && decide (n ≤ 1000000)) (Tree.ite (sEq (bytesOf (prL x [])) (bytesOf (prL y (pots (poRows (pots qs))))) == (Cfh.eqB x y && eqP (pots rs) (pots qs))) (Tree.ite (decide (0 ≤ IntKind.i64.wrap ((↑(bytesOf (prL x [])).size : Int) - 1)) && decide (IntKind.i64.wrap ((↑(bytesOf (prL x [])).size : Int) - 1) < (↑(bytesOf (prL x [])).size : Int))) (Tree.leaf { v := V.bool (sAt (bytesOf (prL x [])) (IntKind.i64.wrap ((↑(bytesOf (prL x [])).size : Int) - 1)).toNat == 10), upd := [none, none], new := [] }) Tree.fail) (Tree.leaf { v := V.fls, upd := [none, none], new := [] })) Tree.fail) Tree.fail)) Tree.fail) Tree.fail) (Tree.ite (decide (n = (poRows (pots rs)).length) && decide (n ≤ 1000) && cfI x && (pots (poRows (pots rs))).all potI) (Tree.ite (decide (m = qs.length) && decide (m ≤ 1000)) (Tree.ite (decide (m = 0)) (Tree.ite (cfI y) (Tree.ite (decide (n = rs.length) && decide (m = qs.length) && decide (n ≤ 1000000)) (Tree.ite (sEq (bytesOf (prL x (pots (poRows (pots rs))))) (bytesOf (prL y [])) == (Cfh.eqB x y && eqP (pots rs) (pots qs))) (Tree.ite (decide (0 ≤ IntKind.i64.wrap ((↑(bytesOf (prL x (pots (poRows (pots rs))))).size : Int) - 1)) && decide (IntKind.i64.wrap ((↑(bytesOf (prL x (pots (poRows (pots rs))))).size : Int) - 1) < (↑(bytesOf (prL x (pots (poRows (pots rs))))).size : Int))) (Tree.leaf { v := V.bool (sAt (bytesOf (prL x (pots (poRows (pots rs))))) (IntKind.i64.wrap ((↑(bytesOf (prL x (pots (poRows (pots rs))))).size : Int) - 1)).toNat == 10), upd := [none, none], new := [] }) Tree.fail) (Tree.leaf { v := V.fls, upd := [none, none], new := [] })) Tree.fail) Tree.fail) (Tree.ite (decide (m = (poRows (pots qs)).length) && decide (m ≤ 1000) && cfI y && (pots (poRows (pots qs))).all potI) (Tree.ite (decide (n = rs.length) && decide (m = qs.length) && decide (n ≤ 1000000)) (Tree.ite (sEq (bytesOf (prL x (pots (poRows (pots rs))))) (bytesOf (prL y (pots (poRows (pots qs))))) == (Cfh.eqB x y && eqP (pots rs) (pots qs))) (Tree.ite (decide (0 ≤ IntKind.i64.wrap ((↑(bytesOf (prL x (pots (poRows (pots rs))))).size : Int) - 1)) && decide (IntKind.i64.wrap ((↑(bytesOf (prL x (pots (poRows (pots rs))))).size : Int) - 1) < (↑(bytesOf (prL x (pots (poRows (pots rs))))).size : Int))) (Tree.leaf { v := V.bool (sAt (bytesOf (prL x (pots (poRows (pots rs))))) (IntKind.i64.wrap ((↑(bytesOf (prL x (pots (poRows (pots rs))))).size : Int) - 1)).toNat == 10), upd := [none, none], new := [] }) Tree.fail) (Tree.leaf { v := V.fls, upd := [none, none], new := [] })) Tree.fail) Tree.fail)) Tree.fail) Tree.fail)) Tree.fail))) from by kernel_rfl]
        have ln : n = (pots rs).length := by rw [pots_len]; exact h1
        have lm : m = (pots qs).length := by rw [pots_len]; exact h2
        have f1 := same_eq h3 h4 h5 h6
        obtain ⟨f2, f3⟩ := prL_last x (pots rs)
        have sz := prL_size h3 h5
        rw [pots_rows, pots_rows, poRows_len, poRows_len, pots_len, pots_len, h3, h4, h5, h6, ← h1, ← h2, decide_eq_true rfl, decide_eq_true rfl]
        by_cases n100 : (n : Int) > 100
        · rw [decide_eq_true n100]; rfl
        by_cases m100 : (m : Int) > 100
        · rw [decide_eq_false n100, decide_eq_true m100]; rfl
        rw [decide_eq_false n100, decide_eq_false m100, decide_eq_true (show n ≤ 1000 by omega), decide_eq_true (show m ≤ 1000 by omega), decide_eq_true (show n ≤ 1000000 by omega)]
        have f4 : IntKind.i64.wrap (((bytesOf (prL x (pots rs))).size : Int) - 1) = (((bytesOf (prL x (pots rs))).size - 1 : Nat) : Int) := by rw [wrap64_id (by omega) (by omega)]; omega
        have f5 : decide ((0 : Int) ≤ (((bytesOf (prL x (pots rs))).size - 1 : Nat) : Int)) = true := decide_eq_true (by omega)
        have f6 : decide ((((bytesOf (prL x (pots rs))).size - 1 : Nat) : Int) < ((bytesOf (prL x (pots rs))).size : Int)) = true := decide_eq_true (by omega)
        by_cases n0 : n = 0
        · have hp : pots rs = [] := List.eq_nil_of_length_eq_zero (by omega)
          rw [hp] at f1 f3 f4 f5 f6 ⊢
          by_cases m0 : m = 0
          · have hq : pots qs = [] := List.eq_nil_of_length_eq_zero (by omega)
            rw [hq] at f1 ⊢
            rw [decide_eq_true n0, decide_eq_true m0, f1, f4, f5, f6, Int.toNat_natCast, f3]; rfl
          · rw [decide_eq_true n0, decide_eq_false m0, f1, f4, f5, f6, Int.toNat_natCast, f3]; rfl
        · by_cases m0 : m = 0
          · have hq : pots qs = [] := List.eq_nil_of_length_eq_zero (by omega)
            rw [hq] at f1 ⊢
            rw [decide_eq_false n0, decide_eq_true m0, f1, f4, f5, f6, Int.toNat_natCast, f3]; rfl
          · rw [decide_eq_false n0, decide_eq_false m0, f1, f4, f5, f6, Int.toNat_natCast, f3]; rfl
      · simp [den_fail] at h
    · simp [den_fail] at h
  · simp [den_fail] at h
end Go.Proofs.YtkgbphheppfnaaaDoor
