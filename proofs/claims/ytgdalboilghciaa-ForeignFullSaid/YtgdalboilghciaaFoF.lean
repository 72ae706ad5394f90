/- Layer 8: the law of a sender heard at each interval, as a function. The conditions stand in the specification; the row meets them. -/
import Derived.Test.YtgdalboilghciaaFoE
import Derived.Test.YtgdalboilghciaaRxC
set_option linter.unusedSimpArgs false
set_option linter.unusedVariables false
set_option linter.unnecessarySimpa false
set_option linter.unusedSectionVars false
set_option maxRecDepth 100000
set_option linter.unusedSimpArgs false
set_option linter.unusedVariables false
namespace Go.Proofs.Ytgdalboilghciaa
open Go.Rx
/-- Who was heard often, where at most one was heard. -/
def q1R (es : TabE) (win now : Int) : Tree Res := match es with
  | [] => .leaf ⟨.sl 2 0 0 32 0 none, noneU 0, [.rows stK []]⟩
  | [(p, e)] => .need (decide (0 ≤ e.m) && decide (e.m ≤ 2)) (.ite (cntE e e.m.toNat now win == 2) (.leaf ⟨.sl 3 0 0 32 1 none, noneU 1, [.rows stK [e.s.vs]]⟩) (.leaf ⟨.sl 3 0 0 32 0 none, noneU 1, [.rows stK []]⟩))
  | _ => .fail
def q1S : Rx.Spec := fun a b => match a, tabP b with
  | [.ptr 0 0 0 0, .int .i64 now], some (own, win, es) => q1R es win now
  | _, _ => .fail
theorem isoL_one (p : Prt) : isoL [p] = [p] := rfl
theorem q1_ok : SpecOK P 12 q1S := by
  refine specGive (qu_ok (srt := isoL) fun _ => rfl) ?_
  intro args bs r h
  refine ⟨r.upd, ?_, ?_⟩
  · unfold q1S at h
    split at h
    · rename_i now own win es hb
      show (quS isoL [.ptr 0 0 0 0, .int .i64 now] bs).denN = _
      unfold quS
      simp only [hb]
      unfold q1R at h
      split at h
      · have h := denN_of h
        rw [show Tree.denN (Tree.lit (Nat.ble ([] : TabE).length 5) (quR isoL [] win now)) = Tree.denN (quR isoL [] win now) from rfl]
        exact Eq.trans (by rfl) h
      · rename_i p e
        have h := denN_of h
        rw [show Tree.denN (Tree.lit (Nat.ble [(p, e)].length 5) (quR isoL [(p, e)] win now)) = Tree.denN (quR isoL [(p, e)] win now) from rfl]
        refine Eq.trans ?_ h
        unfold quR
        rw [show wfE [(p, e)] = ((decide (0 ≤ e.m) && decide (e.m ≤ 2)) && true) from rfl, Bool.and_true, show ([(p, e)].map (·.1)) = [p] from rfl, isoL_one]
        cases decide (0 ≤ e.m) && decide (e.m ≤ 2)
        · rfl
        · have hq : qC now win p [(p, e)] = (cntE e e.m.toNat now win == 2) := by rw [qC, Prt.eqB_self]
          have hl : lastE p [(p, e)] = (e.s, e.t0, true) := by rw [lastE, Prt.eqB_self]
          have hF : quF now win [(p, e)] [p] = if (cntE e e.m.toNat now win == 2) = true then [e.s] else [] := by
            unfold quF
            rw [List.filter_cons, hq]
            split
            · rw [List.filter_nil, List.map_cons, hl]; rfl
            · rfl
          rw [hF]
          cases cntE e e.m.toNat now win == 2 <;> rfl
      · simp [den_fail] at h
    · simp [den_fail] at h
  · have : ∀ u, gu u u := fun u => by
      induction u with
      | nil => trivial
      | cons a b ih => exact ⟨.inl rfl, ih⟩
    exact this _
abbrev foG (srt : List Prt → List Prt) : List (Nat × Rx.Spec) := [(11, heS srt), (12, q1S)]
abbrev foV (many k : Int) : List V := [.ptr 0 0 0 0, .ptr 1 0 0 0, .ptr 2 0 0 0, .int .i64 many, .int .i64 k]
abbrev foB (own : Ck) (ev win : Int) (s : Ste) (es : TabE) : List Blk := Body.cells (own.vs ++ [.int .i64 ev]) :: Body.cells s.vs :: tabK 2 own win es
noncomputable abbrev foRd (srt : List Prt → List Prt) (vals : List V) (bs : List Blk) : Tree LRes := evRound P (specsOf (foG srt)) (loopsOf []) 105 [3, 5, 7, 58, 59] [6] (loopAt Try.f3 0) vals bs
theorem fo0 (srt : List Prt → List Prt) (own : Ck) (ev win many : Int) (s : Ste) : (foRd srt (foV many 0) (foB own ev win s [])).den = Tree.den (Tree.ite (decide (0 < many)) (Tree.ite (badB own s (IntKind.i64.wrap (0 * ev))) (Tree.leaf { e := Ex.ret, vs := [V.fls], upd := [none, none, none, none], new := [] }) (Tree.ite (cntE { s := s, t0 := (newE s (IntKind.i64.wrap (0 * ev))).t0, t1 := (newE s (IntKind.i64.wrap (0 * ev))).t1, m := (newE s (IntKind.i64.wrap (0 * ev))).m : Ent } 1 (IntKind.i64.wrap (0 * ev)) win == 2) (Tree.leaf { e := Ex.ret, vs := [V.fls], upd := [none, none, none, some (some (Body.kv [V.agg [V.int IntKind.u8 s.snd.c.1, V.int IntKind.u8 s.snd.c.2, V.int IntKind.u8 s.snd.c.3, V.int IntKind.u8 s.snd.c.4, V.int IntKind.u8 s.snd.c.5, V.int IntKind.u8 s.snd.c.6, V.int IntKind.u8 s.snd.c.7, V.int IntKind.u8 s.snd.c.8, V.int IntKind.i64 s.snd.2]] [V.ptr 4 0 0 0]))], new := [Body.cells [V.int IntKind.i64 s.1, V.int IntKind.i64 s.2, V.int IntKind.i64 s.q.1, V.int IntKind.i64 s.q.2, V.int IntKind.i64 s.q.3, V.int IntKind.u8 s.g.1, V.int IntKind.u8 s.g.2, V.int IntKind.u8 s.g.3, V.int IntKind.u8 s.g.4, V.int IntKind.u8 s.g.5, V.int IntKind.u8 s.g.6, V.int IntKind.u8 s.g.7, V.int IntKind.u8 s.g.8, V.int IntKind.i64 s.5, V.int IntKind.u8 s.snd.c.1, V.int IntKind.u8 s.snd.c.2, V.int IntKind.u8 s.snd.c.3, V.int IntKind.u8 s.snd.c.4, V.int IntKind.u8 s.snd.c.5, V.int IntKind.u8 s.snd.c.6, V.int IntKind.u8 s.snd.c.7, V.int IntKind.u8 s.snd.c.8, V.int IntKind.i64 s.snd.2, V.int IntKind.u8 s.rcv.c.1, V.int IntKind.u8 s.rcv.c.2, V.int IntKind.u8 s.rcv.c.3, V.int IntKind.u8 s.rcv.c.4, V.int IntKind.u8 s.rcv.c.5, V.int IntKind.u8 s.rcv.c.6, V.int IntKind.u8 s.rcv.c.7, V.int IntKind.u8 s.rcv.c.8, V.int IntKind.i64 s.rcv.2, V.int IntKind.i64 (newE s (IntKind.i64.wrap (0 * ev))).t0, V.int IntKind.i64 (newE s (IntKind.i64.wrap (0 * ev))).t1, V.int IntKind.i64 (newE s (IntKind.i64.wrap (0 * ev))).m]] }) (Tree.leaf { e := Ex.nrm, vs := [V.ptr 0 0 0 0, V.ptr 1 0 0 0, V.ptr 2 0 0 0, V.int IntKind.i64 many, V.int IntKind.i64 1], upd := [none, none, none, some (some (Body.kv [V.agg [V.int IntKind.u8 s.snd.c.1, V.int IntKind.u8 s.snd.c.2, V.int IntKind.u8 s.snd.c.3, V.int IntKind.u8 s.snd.c.4, V.int IntKind.u8 s.snd.c.5, V.int IntKind.u8 s.snd.c.6, V.int IntKind.u8 s.snd.c.7, V.int IntKind.u8 s.snd.c.8, V.int IntKind.i64 s.snd.2]] [V.ptr 4 0 0 0]))], new := [Body.cells [V.int IntKind.i64 s.1, V.int IntKind.i64 s.2, V.int IntKind.i64 s.q.1, V.int IntKind.i64 s.q.2, V.int IntKind.i64 s.q.3, V.int IntKind.u8 s.g.1, V.int IntKind.u8 s.g.2, V.int IntKind.u8 s.g.3, V.int IntKind.u8 s.g.4, V.int IntKind.u8 s.g.5, V.int IntKind.u8 s.g.6, V.int IntKind.u8 s.g.7, V.int IntKind.u8 s.g.8, V.int IntKind.i64 s.5, V.int IntKind.u8 s.snd.c.1, V.int IntKind.u8 s.snd.c.2, V.int IntKind.u8 s.snd.c.3, V.int IntKind.u8 s.snd.c.4, V.int IntKind.u8 s.snd.c.5, V.int IntKind.u8 s.snd.c.6, V.int IntKind.u8 s.snd.c.7, V.int IntKind.u8 s.snd.c.8, V.int IntKind.i64 s.snd.2, V.int IntKind.u8 s.rcv.c.1, V.int IntKind.u8 s.rcv.c.2, V.int IntKind.u8 s.rcv.c.3, V.int IntKind.u8 s.rcv.c.4, V.int IntKind.u8 s.rcv.c.5, V.int IntKind.u8 s.rcv.c.6, V.int IntKind.u8 s.rcv.c.7, V.int IntKind.u8 s.rcv.c.8, V.int IntKind.i64 s.rcv.2, V.int IntKind.i64 (newE s (IntKind.i64.wrap (0 * ev))).t0, V.int IntKind.i64 (newE s (IntKind.i64.wrap (0 * ev))).t1, V.int IntKind.i64 (newE s (IntKind.i64.wrap (0 * ev))).m]] }))) (Tree.leaf { e := Ex.exit 0, vs := [V.any], upd := [none, none, none, none], new := [] })) := by
  kernel_rfl
theorem fo1 (srt : List Prt → List Prt) (own : Ck) (ev win many k : Int) (s : Ste) (p : Prt) (e : Ent) : (foRd srt (foV many k) (foB own ev win s [(p, e)])).den = Tree.den (Tree.ite (decide (k < many)) (Tree.ite (badB own s (IntKind.i64.wrap (k * ev))) (Tree.ite (decide (0 ≤ e.m) && decide (e.m ≤ 2)) (Tree.ite (cntE e e.m.toNat (IntKind.i64.wrap (k * ev)) win == 2) (Tree.ite (0 != IntKind.i64.wrap (2 - min k 1)) (Tree.leaf { e := Ex.ret, vs := [V.fls], upd := [none, none, none, none, none], new := [] }) (Tree.ite (1 != min k 1) (Tree.leaf { e := Ex.ret, vs := [V.fls], upd := [none, none, none, none, none], new := [] }) (Tree.ite (decide (k > 0)) (Tree.ite (!(Ste.eqB e.s s)) (Tree.leaf { e := Ex.ret, vs := [V.fls], upd := [none, none, none, none, none], new := [] }) (Tree.leaf { e := Ex.nrm, vs := [V.ptr 0 0 0 0, V.ptr 1 0 0 0, V.ptr 2 0 0 0, V.int IntKind.i64 many, V.int IntKind.i64 (IntKind.i64.wrap (k + 1))], upd := [none, none, none, none, none], new := [] })) (Tree.leaf { e := Ex.nrm, vs := [V.ptr 0 0 0 0, V.ptr 1 0 0 0, V.ptr 2 0 0 0, V.int IntKind.i64 many, V.int IntKind.i64 (IntKind.i64.wrap (k + 1))], upd := [none, none, none, none, none], new := [] })))) (Tree.ite (0 != IntKind.i64.wrap (2 - min k 1)) (Tree.leaf { e := Ex.ret, vs := [V.fls], upd := [none, none, none, none, none], new := [] }) (Tree.ite (0 != min k 1) (Tree.leaf { e := Ex.ret, vs := [V.fls], upd := [none, none, none, none, none], new := [] }) (Tree.ite (decide (k > 0)) Tree.fail (Tree.leaf { e := Ex.nrm, vs := [V.ptr 0 0 0 0, V.ptr 1 0 0 0, V.ptr 2 0 0 0, V.int IntKind.i64 many, V.int IntKind.i64 (IntKind.i64.wrap (k + 1))], upd := [none, none, none, none, none], new := [] }))))) Tree.fail) (Tree.ite (Prt.eqB s.snd p) (Tree.ite (decide (e.t0 > IntKind.i64.wrap (k * ev))) (Tree.ite (decide (0 ≤ e.m) && decide (e.m ≤ 2)) (Tree.ite (cntE e e.m.toNat (IntKind.i64.wrap (k * ev)) win == 2) (Tree.ite (0 != IntKind.i64.wrap (2 - min k 1)) (Tree.leaf { e := Ex.ret, vs := [V.fls], upd := [none, none, none, none, none], new := [] }) (Tree.ite (1 != min k 1) (Tree.leaf { e := Ex.ret, vs := [V.fls], upd := [none, none, none, none, none], new := [] }) (Tree.ite (decide (k > 0)) (Tree.ite (!(Ste.eqB e.s s)) (Tree.leaf { e := Ex.ret, vs := [V.fls], upd := [none, none, none, none, none], new := [] }) (Tree.leaf { e := Ex.nrm, vs := [V.ptr 0 0 0 0, V.ptr 1 0 0 0, V.ptr 2 0 0 0, V.int IntKind.i64 many, V.int IntKind.i64 (IntKind.i64.wrap (k + 1))], upd := [none, none, none, none, none], new := [] })) (Tree.leaf { e := Ex.nrm, vs := [V.ptr 0 0 0 0, V.ptr 1 0 0 0, V.ptr 2 0 0 0, V.int IntKind.i64 many, V.int IntKind.i64 (IntKind.i64.wrap (k + 1))], upd := [none, none, none, none, none], new := [] })))) (Tree.ite (0 != IntKind.i64.wrap (2 - min k 1)) (Tree.leaf { e := Ex.ret, vs := [V.fls], upd := [none, none, none, none, none], new := [] }) (Tree.ite (0 != min k 1) (Tree.leaf { e := Ex.ret, vs := [V.fls], upd := [none, none, none, none, none], new := [] }) (Tree.ite (decide (k > 0)) Tree.fail (Tree.leaf { e := Ex.nrm, vs := [V.ptr 0 0 0 0, V.ptr 1 0 0 0, V.ptr 2 0 0 0, V.int IntKind.i64 many, V.int IntKind.i64 (IntKind.i64.wrap (k + 1))], upd := [none, none, none, none, none], new := [] }))))) Tree.fail) (Tree.ite (decide (0 ≤ { s := s, t0 := (heardE s (IntKind.i64.wrap (k * ev)) e).t0, t1 := (heardE s (IntKind.i64.wrap (k * ev)) e).t1, m := (heardE s (IntKind.i64.wrap (k * ev)) e).m : Ent }.m) && decide ({ s := s, t0 := (heardE s (IntKind.i64.wrap (k * ev)) e).t0, t1 := (heardE s (IntKind.i64.wrap (k * ev)) e).t1, m := (heardE s (IntKind.i64.wrap (k * ev)) e).m : Ent }.m ≤ 2)) (Tree.ite (cntE { s := s, t0 := (heardE s (IntKind.i64.wrap (k * ev)) e).t0, t1 := (heardE s (IntKind.i64.wrap (k * ev)) e).t1, m := (heardE s (IntKind.i64.wrap (k * ev)) e).m : Ent } { s := s, t0 := (heardE s (IntKind.i64.wrap (k * ev)) e).t0, t1 := (heardE s (IntKind.i64.wrap (k * ev)) e).t1, m := (heardE s (IntKind.i64.wrap (k * ev)) e).m : Ent }.m.toNat (IntKind.i64.wrap (k * ev)) win == 2) (Tree.ite (1 != IntKind.i64.wrap (2 - min k 1)) (Tree.leaf { e := Ex.ret, vs := [V.fls], upd := [none, none, none, none, some (some (Body.cells [V.int IntKind.i64 s.1, V.int IntKind.i64 s.2, V.int IntKind.i64 s.q.1, V.int IntKind.i64 s.q.2, V.int IntKind.i64 s.q.3, V.int IntKind.u8 s.g.1, V.int IntKind.u8 s.g.2, V.int IntKind.u8 s.g.3, V.int IntKind.u8 s.g.4, V.int IntKind.u8 s.g.5, V.int IntKind.u8 s.g.6, V.int IntKind.u8 s.g.7, V.int IntKind.u8 s.g.8, V.int IntKind.i64 s.5, V.int IntKind.u8 s.snd.c.1, V.int IntKind.u8 s.snd.c.2, V.int IntKind.u8 s.snd.c.3, V.int IntKind.u8 s.snd.c.4, V.int IntKind.u8 s.snd.c.5, V.int IntKind.u8 s.snd.c.6, V.int IntKind.u8 s.snd.c.7, V.int IntKind.u8 s.snd.c.8, V.int IntKind.i64 s.snd.2, V.int IntKind.u8 s.rcv.c.1, V.int IntKind.u8 s.rcv.c.2, V.int IntKind.u8 s.rcv.c.3, V.int IntKind.u8 s.rcv.c.4, V.int IntKind.u8 s.rcv.c.5, V.int IntKind.u8 s.rcv.c.6, V.int IntKind.u8 s.rcv.c.7, V.int IntKind.u8 s.rcv.c.8, V.int IntKind.i64 s.rcv.2, V.int IntKind.i64 (heardE s (IntKind.i64.wrap (k * ev)) e).t0, V.int IntKind.i64 (heardE s (IntKind.i64.wrap (k * ev)) e).t1, V.int IntKind.i64 (heardE s (IntKind.i64.wrap (k * ev)) e).m]))], new := [] }) (Tree.ite (1 != min k 1) (Tree.leaf { e := Ex.ret, vs := [V.fls], upd := [none, none, none, none, some (some (Body.cells [V.int IntKind.i64 s.1, V.int IntKind.i64 s.2, V.int IntKind.i64 s.q.1, V.int IntKind.i64 s.q.2, V.int IntKind.i64 s.q.3, V.int IntKind.u8 s.g.1, V.int IntKind.u8 s.g.2, V.int IntKind.u8 s.g.3, V.int IntKind.u8 s.g.4, V.int IntKind.u8 s.g.5, V.int IntKind.u8 s.g.6, V.int IntKind.u8 s.g.7, V.int IntKind.u8 s.g.8, V.int IntKind.i64 s.5, V.int IntKind.u8 s.snd.c.1, V.int IntKind.u8 s.snd.c.2, V.int IntKind.u8 s.snd.c.3, V.int IntKind.u8 s.snd.c.4, V.int IntKind.u8 s.snd.c.5, V.int IntKind.u8 s.snd.c.6, V.int IntKind.u8 s.snd.c.7, V.int IntKind.u8 s.snd.c.8, V.int IntKind.i64 s.snd.2, V.int IntKind.u8 s.rcv.c.1, V.int IntKind.u8 s.rcv.c.2, V.int IntKind.u8 s.rcv.c.3, V.int IntKind.u8 s.rcv.c.4, V.int IntKind.u8 s.rcv.c.5, V.int IntKind.u8 s.rcv.c.6, V.int IntKind.u8 s.rcv.c.7, V.int IntKind.u8 s.rcv.c.8, V.int IntKind.i64 s.rcv.2, V.int IntKind.i64 (heardE s (IntKind.i64.wrap (k * ev)) e).t0, V.int IntKind.i64 (heardE s (IntKind.i64.wrap (k * ev)) e).t1, V.int IntKind.i64 (heardE s (IntKind.i64.wrap (k * ev)) e).m]))], new := [] }) (Tree.ite (decide (k > 0)) (Tree.ite (!(Ste.eqB s s)) (Tree.leaf { e := Ex.ret, vs := [V.fls], upd := [none, none, none, none, some (some (Body.cells [V.int IntKind.i64 s.1, V.int IntKind.i64 s.2, V.int IntKind.i64 s.q.1, V.int IntKind.i64 s.q.2, V.int IntKind.i64 s.q.3, V.int IntKind.u8 s.g.1, V.int IntKind.u8 s.g.2, V.int IntKind.u8 s.g.3, V.int IntKind.u8 s.g.4, V.int IntKind.u8 s.g.5, V.int IntKind.u8 s.g.6, V.int IntKind.u8 s.g.7, V.int IntKind.u8 s.g.8, V.int IntKind.i64 s.5, V.int IntKind.u8 s.snd.c.1, V.int IntKind.u8 s.snd.c.2, V.int IntKind.u8 s.snd.c.3, V.int IntKind.u8 s.snd.c.4, V.int IntKind.u8 s.snd.c.5, V.int IntKind.u8 s.snd.c.6, V.int IntKind.u8 s.snd.c.7, V.int IntKind.u8 s.snd.c.8, V.int IntKind.i64 s.snd.2, V.int IntKind.u8 s.rcv.c.1, V.int IntKind.u8 s.rcv.c.2, V.int IntKind.u8 s.rcv.c.3, V.int IntKind.u8 s.rcv.c.4, V.int IntKind.u8 s.rcv.c.5, V.int IntKind.u8 s.rcv.c.6, V.int IntKind.u8 s.rcv.c.7, V.int IntKind.u8 s.rcv.c.8, V.int IntKind.i64 s.rcv.2, V.int IntKind.i64 (heardE s (IntKind.i64.wrap (k * ev)) e).t0, V.int IntKind.i64 (heardE s (IntKind.i64.wrap (k * ev)) e).t1, V.int IntKind.i64 (heardE s (IntKind.i64.wrap (k * ev)) e).m]))], new := [] }) (Tree.leaf { e := Ex.nrm, vs := [V.ptr 0 0 0 0, V.ptr 1 0 0 0, V.ptr 2 0 0 0, V.int IntKind.i64 many, V.int IntKind.i64 (IntKind.i64.wrap (k + 1))], upd := [none, none, none, none, some (some (Body.cells [V.int IntKind.i64 s.1, V.int IntKind.i64 s.2, V.int IntKind.i64 s.q.1, V.int IntKind.i64 s.q.2, V.int IntKind.i64 s.q.3, V.int IntKind.u8 s.g.1, V.int IntKind.u8 s.g.2, V.int IntKind.u8 s.g.3, V.int IntKind.u8 s.g.4, V.int IntKind.u8 s.g.5, V.int IntKind.u8 s.g.6, V.int IntKind.u8 s.g.7, V.int IntKind.u8 s.g.8, V.int IntKind.i64 s.5, V.int IntKind.u8 s.snd.c.1, V.int IntKind.u8 s.snd.c.2, V.int IntKind.u8 s.snd.c.3, V.int IntKind.u8 s.snd.c.4, V.int IntKind.u8 s.snd.c.5, V.int IntKind.u8 s.snd.c.6, V.int IntKind.u8 s.snd.c.7, V.int IntKind.u8 s.snd.c.8, V.int IntKind.i64 s.snd.2, V.int IntKind.u8 s.rcv.c.1, V.int IntKind.u8 s.rcv.c.2, V.int IntKind.u8 s.rcv.c.3, V.int IntKind.u8 s.rcv.c.4, V.int IntKind.u8 s.rcv.c.5, V.int IntKind.u8 s.rcv.c.6, V.int IntKind.u8 s.rcv.c.7, V.int IntKind.u8 s.rcv.c.8, V.int IntKind.i64 s.rcv.2, V.int IntKind.i64 (heardE s (IntKind.i64.wrap (k * ev)) e).t0, V.int IntKind.i64 (heardE s (IntKind.i64.wrap (k * ev)) e).t1, V.int IntKind.i64 (heardE s (IntKind.i64.wrap (k * ev)) e).m]))], new := [] })) (Tree.leaf { e := Ex.nrm, vs := [V.ptr 0 0 0 0, V.ptr 1 0 0 0, V.ptr 2 0 0 0, V.int IntKind.i64 many, V.int IntKind.i64 (IntKind.i64.wrap (k + 1))], upd := [none, none, none, none, some (some (Body.cells [V.int IntKind.i64 s.1, V.int IntKind.i64 s.2, V.int IntKind.i64 s.q.1, V.int IntKind.i64 s.q.2, V.int IntKind.i64 s.q.3, V.int IntKind.u8 s.g.1, V.int IntKind.u8 s.g.2, V.int IntKind.u8 s.g.3, V.int IntKind.u8 s.g.4, V.int IntKind.u8 s.g.5, V.int IntKind.u8 s.g.6, V.int IntKind.u8 s.g.7, V.int IntKind.u8 s.g.8, V.int IntKind.i64 s.5, V.int IntKind.u8 s.snd.c.1, V.int IntKind.u8 s.snd.c.2, V.int IntKind.u8 s.snd.c.3, V.int IntKind.u8 s.snd.c.4, V.int IntKind.u8 s.snd.c.5, V.int IntKind.u8 s.snd.c.6, V.int IntKind.u8 s.snd.c.7, V.int IntKind.u8 s.snd.c.8, V.int IntKind.i64 s.snd.2, V.int IntKind.u8 s.rcv.c.1, V.int IntKind.u8 s.rcv.c.2, V.int IntKind.u8 s.rcv.c.3, V.int IntKind.u8 s.rcv.c.4, V.int IntKind.u8 s.rcv.c.5, V.int IntKind.u8 s.rcv.c.6, V.int IntKind.u8 s.rcv.c.7, V.int IntKind.u8 s.rcv.c.8, V.int IntKind.i64 s.rcv.2, V.int IntKind.i64 (heardE s (IntKind.i64.wrap (k * ev)) e).t0, V.int IntKind.i64 (heardE s (IntKind.i64.wrap (k * ev)) e).t1, V.int IntKind.i64 (heardE s (IntKind.i64.wrap (k * ev)) e).m]))], new := [] })))) (Tree.ite (1 != IntKind.i64.wrap (2 - min k 1)) (Tree.leaf { e := Ex.ret, vs := [V.fls], upd := [none, none, none, none, some (some (Body.cells [V.int IntKind.i64 s.1, V.int IntKind.i64 s.2, V.int IntKind.i64 s.q.1, V.int IntKind.i64 s.q.2, V.int IntKind.i64 s.q.3, V.int IntKind.u8 s.g.1, V.int IntKind.u8 s.g.2, V.int IntKind.u8 s.g.3, V.int IntKind.u8 s.g.4, V.int IntKind.u8 s.g.5, V.int IntKind.u8 s.g.6, V.int IntKind.u8 s.g.7, V.int IntKind.u8 s.g.8, V.int IntKind.i64 s.5, V.int IntKind.u8 s.snd.c.1, V.int IntKind.u8 s.snd.c.2, V.int IntKind.u8 s.snd.c.3, V.int IntKind.u8 s.snd.c.4, V.int IntKind.u8 s.snd.c.5, V.int IntKind.u8 s.snd.c.6, V.int IntKind.u8 s.snd.c.7, V.int IntKind.u8 s.snd.c.8, V.int IntKind.i64 s.snd.2, V.int IntKind.u8 s.rcv.c.1, V.int IntKind.u8 s.rcv.c.2, V.int IntKind.u8 s.rcv.c.3, V.int IntKind.u8 s.rcv.c.4, V.int IntKind.u8 s.rcv.c.5, V.int IntKind.u8 s.rcv.c.6, V.int IntKind.u8 s.rcv.c.7, V.int IntKind.u8 s.rcv.c.8, V.int IntKind.i64 s.rcv.2, V.int IntKind.i64 (heardE s (IntKind.i64.wrap (k * ev)) e).t0, V.int IntKind.i64 (heardE s (IntKind.i64.wrap (k * ev)) e).t1, V.int IntKind.i64 (heardE s (IntKind.i64.wrap (k * ev)) e).m]))], new := [] }) (Tree.ite (0 != min k 1) (Tree.leaf { e := Ex.ret, vs := [V.fls], upd := [none, none, none, none, some (some (Body.cells [V.int IntKind.i64 s.1, V.int IntKind.i64 s.2, V.int IntKind.i64 s.q.1, V.int IntKind.i64 s.q.2, V.int IntKind.i64 s.q.3, V.int IntKind.u8 s.g.1, V.int IntKind.u8 s.g.2, V.int IntKind.u8 s.g.3, V.int IntKind.u8 s.g.4, V.int IntKind.u8 s.g.5, V.int IntKind.u8 s.g.6, V.int IntKind.u8 s.g.7, V.int IntKind.u8 s.g.8, V.int IntKind.i64 s.5, V.int IntKind.u8 s.snd.c.1, V.int IntKind.u8 s.snd.c.2, V.int IntKind.u8 s.snd.c.3, V.int IntKind.u8 s.snd.c.4, V.int IntKind.u8 s.snd.c.5, V.int IntKind.u8 s.snd.c.6, V.int IntKind.u8 s.snd.c.7, V.int IntKind.u8 s.snd.c.8, V.int IntKind.i64 s.snd.2, V.int IntKind.u8 s.rcv.c.1, V.int IntKind.u8 s.rcv.c.2, V.int IntKind.u8 s.rcv.c.3, V.int IntKind.u8 s.rcv.c.4, V.int IntKind.u8 s.rcv.c.5, V.int IntKind.u8 s.rcv.c.6, V.int IntKind.u8 s.rcv.c.7, V.int IntKind.u8 s.rcv.c.8, V.int IntKind.i64 s.rcv.2, V.int IntKind.i64 (heardE s (IntKind.i64.wrap (k * ev)) e).t0, V.int IntKind.i64 (heardE s (IntKind.i64.wrap (k * ev)) e).t1, V.int IntKind.i64 (heardE s (IntKind.i64.wrap (k * ev)) e).m]))], new := [] }) (Tree.ite (decide (k > 0)) Tree.fail (Tree.leaf { e := Ex.nrm, vs := [V.ptr 0 0 0 0, V.ptr 1 0 0 0, V.ptr 2 0 0 0, V.int IntKind.i64 many, V.int IntKind.i64 (IntKind.i64.wrap (k + 1))], upd := [none, none, none, none, some (some (Body.cells [V.int IntKind.i64 s.1, V.int IntKind.i64 s.2, V.int IntKind.i64 s.q.1, V.int IntKind.i64 s.q.2, V.int IntKind.i64 s.q.3, V.int IntKind.u8 s.g.1, V.int IntKind.u8 s.g.2, V.int IntKind.u8 s.g.3, V.int IntKind.u8 s.g.4, V.int IntKind.u8 s.g.5, V.int IntKind.u8 s.g.6, V.int IntKind.u8 s.g.7, V.int IntKind.u8 s.g.8, V.int IntKind.i64 s.5, V.int IntKind.u8 s.snd.c.1, V.int IntKind.u8 s.snd.c.2, V.int IntKind.u8 s.snd.c.3, V.int IntKind.u8 s.snd.c.4, V.int IntKind.u8 s.snd.c.5, V.int IntKind.u8 s.snd.c.6, V.int IntKind.u8 s.snd.c.7, V.int IntKind.u8 s.snd.c.8, V.int IntKind.i64 s.snd.2, V.int IntKind.u8 s.rcv.c.1, V.int IntKind.u8 s.rcv.c.2, V.int IntKind.u8 s.rcv.c.3, V.int IntKind.u8 s.rcv.c.4, V.int IntKind.u8 s.rcv.c.5, V.int IntKind.u8 s.rcv.c.6, V.int IntKind.u8 s.rcv.c.7, V.int IntKind.u8 s.rcv.c.8, V.int IntKind.i64 s.rcv.2, V.int IntKind.i64 (heardE s (IntKind.i64.wrap (k * ev)) e).t0, V.int IntKind.i64 (heardE s (IntKind.i64.wrap (k * ev)) e).t1, V.int IntKind.i64 (heardE s (IntKind.i64.wrap (k * ev)) e).m]))], new := [] }))))) Tree.fail)) Tree.fail)) (Tree.leaf { e := Ex.exit 0, vs := [V.any], upd := [none, none, none, none, none], new := [] })) := by
  kernel_rfl
theorem cnt_one (e : Ent) (now win : Int) : (cntE e 1 now win == 2) = false := by
  show (b2i (inW now win e.t0) == 2) = false
  cases inW now win e.t0 <;> rfl
theorem fo0' (srt : List Prt → List Prt) (own : Ck) (ev win many : Int) (s : Ste) (hmy : 0 < many) (hb : badB own s (IntKind.i64.wrap (0 * ev)) = false) :
    (foRd srt (foV many 0) (foB own ev win s [])).den = some ⟨.nrm, foV many 1, [none, none, none, some (some (.kv [s.snd.v] [.ptr 4 0 0 0]))], [.cells (newE s (IntKind.i64.wrap (0 * ev))).vs]⟩ := by
  refine (fo0 srt own ev win many s).trans ?_
  show (Tree.ite (decide (0 < many)) (Tree.ite (badB own s (IntKind.i64.wrap (0 * ev))) _ (Tree.ite (cntE (newE s (IntKind.i64.wrap (0 * ev))) 1 (IntKind.i64.wrap (0 * ev)) win == 2) _ _)) _ : Tree LRes).den = _
  rw [decide_eq_true hmy, hb, cnt_one]
  kernel_rfl
theorem fo1' (srt : List Prt → List Prt) (own : Ck) (ev win many k : Int) (s : Ste) (e : Ent) (hmy : k < many) (hk : 1 ≤ k) (hb : badB own s (IntKind.i64.wrap (k * ev)) = false) (h1 : ¬ e.t0 > IntKind.i64.wrap (k * ev))
    (h2 : (heardE s (IntKind.i64.wrap (k * ev)) e).m = 2) (h3 : (cntE (heardE s (IntKind.i64.wrap (k * ev)) e) 2 (IntKind.i64.wrap (k * ev)) win == 2) = true) :
    (foRd srt (foV many k) (foB own ev win s [(s.snd, e)])).den = some ⟨.nrm, foV many (IntKind.i64.wrap (k + 1)), [none, none, none, none, some (some (.cells (heardE s (IntKind.i64.wrap (k * ev)) e).vs))], []⟩ := by
  refine (fo1 srt own ev win many k s s.snd e).trans ?_
  show (Tree.ite (decide (k < many)) (Tree.ite (badB own s (IntKind.i64.wrap (k * ev))) _ (Tree.ite (s.snd.eqB s.snd) (Tree.ite (decide (e.t0 > IntKind.i64.wrap (k * ev))) _
    (Tree.ite (decide (0 ≤ (heardE s (IntKind.i64.wrap (k * ev)) e).m) && decide ((heardE s (IntKind.i64.wrap (k * ev)) e).m ≤ 2)) (Tree.ite (cntE (heardE s (IntKind.i64.wrap (k * ev)) e) (heardE s (IntKind.i64.wrap (k * ev)) e).m.toNat (IntKind.i64.wrap (k * ev)) win == 2)
      (Tree.ite (1 != IntKind.i64.wrap (2 - min k 1)) _ (Tree.ite (1 != min k 1) _ (Tree.ite (decide (k > 0)) (Tree.ite (!(s.eqB s)) _ _) _))) _) _)) _)) _ : Tree LRes).den = _
  have h2' : (decide (0 ≤ (heardE s (IntKind.i64.wrap (k * ev)) e).m) && decide ((heardE s (IntKind.i64.wrap (k * ev)) e).m ≤ 2)) = true := by rw [h2]; rfl
  have h3' : (cntE (heardE s (IntKind.i64.wrap (k * ev)) e) (heardE s (IntKind.i64.wrap (k * ev)) e).m.toNat (IntKind.i64.wrap (k * ev)) win == 2) = true := by rw [h2]; exact h3
  rw [show min k 1 = 1 by omega, decide_eq_true hmy, hb, Prt.eqB_self, decide_eq_false h1, h2', h3', decide_eq_true (show k > 0 by omega), Ste.eqB_self]
  show (Tree.den _ : Option LRes) = some _
  kernel_rfl
/-- What is heard of it after k more times. -/
def onE (s : Ste) (ev : Int) : Nat → Ent
  | 0 => newE s (IntKind.i64.wrap (0 * ev))
  | k + 1 => heardE s (IntKind.i64.wrap (((k + 1 : Nat) : Int) * ev)) (onE s ev k)
theorem mul_b {k : Nat} {ev : Int} (h1 : 1 ≤ ev) (h2 : ev ≤ 1073741824) (hk : k ≤ 50) : 0 ≤ (k : Int) * ev ∧ (k : Int) * ev ≤ 53687091200 := by
  have a : (0 : Int) ≤ (k : Int) := by omega
  refine ⟨Int.mul_nonneg a (by omega), ?_⟩
  have := Int.mul_le_mul (show (k : Int) ≤ 50 by omega) h2 (by omega) (by omega)
  omega
theorem wrap_k {k : Nat} {ev : Int} (h1 : 1 ≤ ev) (h2 : ev ≤ 1073741824) (hk : k ≤ 50) : IntKind.i64.wrap ((k : Int) * ev) = (k : Int) * ev := by
  have := mul_b h1 h2 hk
  exact wrap64_id (by omega) (by omega)
theorem onE_m (s : Ste) (ev : Int) : ∀ k, (onE s ev k).m = if k = 0 then 1 else 2
  | 0 => rfl
  | k + 1 => by
    show min (IntKind.i64.wrap ((onE s ev k).m + 1)) 2 = _
    rw [onE_m s ev k]
    split <;> rfl
theorem onE_t0 {s : Ste} {ev : Int} (h1 : 1 ≤ ev) (h2 : ev ≤ 1073741824) : ∀ k, k ≤ 50 → (onE s ev k).t0 = (k : Int) * ev
  | 0, _ => by
    show IntKind.i64.wrap (0 * ev) = _
    rw [Int.zero_mul]
    simp [show IntKind.i64.wrap 0 = 0 from rfl]
  | k + 1, hk => wrap_k h1 h2 hk
def rF (s : Ste) (ev : Int) (M : Nat) : Bool → LRes
  | true => ⟨.exit 0, [.any], [none, none, none, none, some (some (.cells (onE s ev (M - 1)).vs))], []⟩
  | false => ⟨.exit 0, [.any], [none, none, none, none, none], []⟩
noncomputable abbrev foLN (srt : List Prt → List Prt) (f : Nat) (vals : List V) (bs : List Blk) : Tree LRes := loopN P (specsOf (foG srt)) (loopsOf []) 105 [3, 5, 7, 58, 59] [6] (loopAt Try.f3 0) f vals bs
theorem bad_no {own : Ck} {s : Ste} {now : Int} (h1 : 0 ≤ now) (h2 : now ≤ 4611686018427387904) (h3 : s.snd.c.eqB own = false) (h4 : 0 ≤ s.st) (h5 : s.st < 255) : badB own s now = false := by
  unfold badB
  rw [h3, decide_eq_false (by omega), decide_eq_false (by omega), decide_eq_false (by omega), decide_eq_false (by omega)]
  rfl
theorem fo_all (srt : List Prt → List Prt) (own : Ck) (ev : Int) (s : Ste) (M : Nat) (e1 : 1 ≤ ev) (e2 : ev ≤ 1073741824) (hM : M ≤ 50) (h3 : s.snd.c.eqB own = false) (h4 : 0 ≤ s.st) (h5 : s.st < 255) :
    ∀ (d k : Nat), k + 1 + d = M → ∃ f, (foLN srt f (foV M (k + 1 : Nat)) (foB own ev (IntKind.i64.wrap (4 * ev)) s [(s.snd, onE s ev k)])).den = some (rF s ev M (decide (0 < d))) := by
  intro d
  induction d with
  | zero =>
    intro k hk
    refine ⟨1, ?_⟩
    have hx := fo1 srt own ev (IntKind.i64.wrap (4 * ev)) M ((k + 1 : Nat) : Int) s s.snd (onE s ev k)
    rw [decide_eq_false (show ¬ ((k + 1 : Nat) : Int) < (M : Int) by omega)] at hx
    exact loopN_end hx (by show Ex.exit 0 ≠ Ex.nrm; decide)
  | succ d ih =>
    intro k hk
    have w : IntKind.i64.wrap (((k + 1 : Nat) : Int) * ev) = ((k + 1 : Nat) : Int) * ev := wrap_k e1 e2 (by omega)
    have b := mul_b (k := k + 1) e1 e2 (by omega)
    have t := onE_t0 (s := s) e1 e2 k (by omega)
    have ek : ((k + 1 : Nat) : Int) * ev = (k : Int) * ev + ev := by rw [Int.natCast_add, Int.add_mul]; simp
    have w4 : IntKind.i64.wrap (4 * ev) = 4 * ev := wrap64_id (by omega) (by omega)
    have st := fo1' srt own ev (IntKind.i64.wrap (4 * ev)) M ((k + 1 : Nat) : Int) s (onE s ev k) (by omega) (by omega) (by rw [w]; exact bad_no b.1 (by omega) h3 h4 h5) (by rw [w, t]; omega)
      (by have := onE_m s ev (k + 1); rw [if_neg (by omega)] at this; exact this)
      (by
        show (b2i (inW (IntKind.i64.wrap (((k + 1 : Nat) : Int) * ev)) (IntKind.i64.wrap (4 * ev)) (IntKind.i64.wrap (((k + 1 : Nat) : Int) * ev))) + b2i (inW (IntKind.i64.wrap (((k + 1 : Nat) : Int) * ev)) (IntKind.i64.wrap (4 * ev)) (onE s ev k).t0) == 2) = true
        rw [w, t, w4]
        have wd : IntKind.i64.wrap (((k + 1 : Nat) : Int) * ev - 4 * ev) = ((k + 1 : Nat) : Int) * ev - 4 * ev := wrap64_id (by omega) (by omega)
        unfold inW
        rw [wd, decide_eq_true (show ((k + 1 : Nat) : Int) * ev ≤ ((k + 1 : Nat) : Int) * ev from Int.le_refl _), decide_eq_true (show ((k + 1 : Nat) : Int) * ev > ((k + 1 : Nat) : Int) * ev - 4 * ev by omega), decide_eq_true (show (k : Int) * ev ≤ ((k + 1 : Nat) : Int) * ev by omega), decide_eq_true (show (k : Int) * ev > ((k + 1 : Nat) : Int) * ev - 4 * ev by omega)]
        rfl)
    have wk : IntKind.i64.wrap (((k + 1 : Nat) : Int) + 1) = ((k + 1 + 1 : Nat) : Int) := by rw [wrap64_id (by omega) (by omega)]; omega
    rw [wk] at st
    obtain ⟨f, hf⟩ := ih (k + 1) (by omega)
    refine ⟨f + 1, ?_⟩
    refine loopN_step st rfl (vals' := foV M (k + 1 + 1 : Nat)) (bs' := foB own ev (IntKind.i64.wrap (4 * ev)) s [(s.snd, onE s ev (k + 1))]) (by kernel_rfl) (by kernel_rfl) (by kernel_rfl) hf ?_
    rw [decide_eq_true (show 0 < d + 1 by omega)]
    cases d with
    | zero =>
      have : M - 1 = k + 1 := by omega
      unfold rF
      rw [this]
      (show (seqAfter _ _ _).den = some _; kernel_rfl)
    | succ d =>
      rw [decide_eq_true (show 0 < d + 1 by omega)]
      unfold rF
      generalize onE s ev (M - 1) = X
      (show (seqAfter _ _ _).den = some _; kernel_rfl)
def foR (s : Ste) (ev : Int) (M : Nat) : LRes := ⟨.exit 0, [.any], [none, none, none, some (some (.kv [s.snd.v] [.ptr 4 0 0 0]))], [.cells (onE s ev (M - 1)).vs]⟩
theorem fo_run (srt : List Prt → List Prt) (own : Ck) (ev : Int) (s : Ste) (M : Nat) (e1 : 1 ≤ ev) (e2 : ev ≤ 1073741824) (h2 : 2 ≤ M) (hM : M ≤ 50) (h3 : s.snd.c.eqB own = false) (h4 : 0 ≤ s.st) (h5 : s.st < 255) :
    ∃ f, (foLN srt f (foV M 0) (foB own ev (IntKind.i64.wrap (4 * ev)) s [])).den = some (foR s ev M) := by
  have st := fo0' srt own ev (IntKind.i64.wrap (4 * ev)) M s (by omega) (by rw [Int.zero_mul]; exact bad_no (by decide) (by decide) h3 h4 h5)
  obtain ⟨f, hf⟩ := fo_all srt own ev s M e1 e2 hM h3 h4 h5 (M - 1) 0 (by omega)
  refine ⟨f + 1, ?_⟩
  refine loopN_step st rfl (vals' := foV M (0 + 1 : Nat)) (bs' := foB own ev (IntKind.i64.wrap (4 * ev)) s [(s.snd, onE s ev 0)]) (by kernel_rfl) (by kernel_rfl) (by kernel_rfl) hf ?_
  rw [decide_eq_true (show 0 < M - 1 by omega)]
  unfold rF foR
  generalize onE s ev (M - 1) = X
  (show (seqAfter _ _ _).den = some _; kernel_rfl)
def foOk (own' own : Ck) (ev win many : Int) (s : Ste) : Bool := own'.eqB own && (!(decide (ev < 1)) && (!(decide (ev > 1073741824)) && (!(decide (many < 2)) && (!(decide (many > 50)) && (!(s.snd.c.eqB own) && (!(decide (s.st < 0)) && (!(decide (s.st ≥ 255)) && win == IntKind.i64.wrap (4 * ev))))))))
def foF (vals : List V) (bs : List Blk) : Tree LRes := match vals, bs with
  | [.ptr 0 0 0 0, .ptr 1 0 0 0, .ptr 2 0 0 0, .int .i64 many, .int .i64 0], Body.cells xc :: Body.cells sc :: tb => match Ck.p xc, Ste.p sc, tabPk 2 tb with
    | some (own', [.int .i64 ev]), some (s, []), some (own, win, []) => .need (foOk own' own ev win many s) (.leaf (foR s ev many.toNat))
    | _, _, _ => .fail
  | _, _ => .fail
abbrev foL : LSpec := ⟨105, [3, 5, 7, 58, 59], [6], foF⟩
theorem fo_loop : LoopOK P (loopAt Try.f3 0) foL := by
  have hov : SpecOK P 23 (ovS isoL) := ov_ok fun _ => rfl
  refine loop_ok (.cons (he_ok hov) (.cons q1_ok (.nil P)) : GammaOK P (foG isoL)) hm (Λ := loopsOf []) (LoopsOK.nil (by kernel_rfl)) foL ?_
  intro vals bs r h
  change (foF vals bs).den = some r at h
  unfold foF at h
  split at h
  · rename_i many xc sc tb
    split at h
    · rename_i own' ev s own win hx hs ht
      have hx := Ck.p_eq hx
      have hs := Ste.p_eq hs
      have ht := tabPk_eq ht
      rw [List.append_nil] at hs
      subst hx hs ht
      rw [den_need] at h
      obtain ⟨ho, h⟩ := h
      simp only [foOk, Bool.and_eq_true, Bool.not_eq_true', decide_eq_false_iff_not, beq_iff_eq, Ck.eqB_iff] at ho
      obtain ⟨rfl, a1, a2, a3, a4, a5, a6, a7, rfl⟩ := ho
      obtain ⟨M, rfl⟩ : ∃ M : Nat, many = (M : Int) := ⟨many.toNat, by omega⟩
      obtain ⟨f, hf⟩ := fo_run isoL own' ev s M (by omega) (by omega) (by omega) (by omega) a5 (by omega) (by omega)
      rw [Int.toNat_natCast] at h
      exact ⟨f, hf.trans h⟩
    · simp [den_fail] at h
  · simp [den_fail] at h
abbrev fwG : List (Nat × Rx.Spec) := [(9, neS), (10, alS), (13, leS)]
def fwT (own : Ck) (ev many : Int) (s : Ste) : Tree Res :=
  .ite (decide (ev < 1)) (.leaf ⟨.tru, [], []⟩) (.ite (decide (ev > 1099511627776)) (.leaf ⟨.tru, [], []⟩) (.ite (decide (many < 2)) (.leaf ⟨.tru, [], []⟩) (.ite (decide (many > 50)) (.leaf ⟨.tru, [], []⟩) (.ite (decide (ev > 1073741824)) (.leaf ⟨.tru, [], []⟩)
    (.ite (s.snd.c.eqB own) (.leaf ⟨.tru, [], []⟩) (.ite (decide (s.st < 0)) (.leaf ⟨.tru, [], []⟩) (.ite (decide (s.st ≥ 255)) (.leaf ⟨.tru, [], []⟩) (.ite (foOk own own ev (IntKind.i64.wrap (4 * ev)) many s) (.leaf ⟨.bool true, [], []⟩) .fail))))))))
theorem fw_nf (own : Ck) (ev many : Int) (s : Ste) : Tree.denN (fFn P (specsOf fwG) (loopsOf [(5, foL)]) Try.f3 [.agg (own.vs ++ [.int .i64 ev]), .int .i64 many, s.v] []) = Tree.denN (fwT own ev many s) := by
  kernel_rfl
theorem fw_true (own : Ck) (ev many : Int) (s : Ste) : (fwT own ev many s).denN = some (Res.nrm ⟨.bool true, [], []⟩) := by
  unfold fwT
  simp only [denN_ite, denN_leaf, denN_fail]
  split
  · rfl
  rename_i a1
  split
  · rfl
  rename_i a2
  split
  · rfl
  rename_i a3
  split
  · rfl
  rename_i a4
  split
  · rfl
  rename_i a5
  split
  · rfl
  rename_i a6
  split
  · rfl
  rename_i a7
  split
  · rfl
  rename_i a8
  have : foOk own own ev (IntKind.i64.wrap (4 * ev)) many s = true := by
    simp only [Bool.not_eq_true] at a1 a2 a3 a4 a5 a6 a7 a8
    unfold foOk
    rw [a1, a3, a4, a5, a6, a7, a8, Ck.eqB_self, beq_self_eq_true]
    rfl
  rw [this]
  rfl
/-- A seat: whose table it is, and how far announcements lie from one another. -/
structure Sea where
  own : Ck
  ev : Int
  deriving DecidableEq, Inhabited
def Sea.vs (x : Sea) : List V := x.own.vs ++ [V.int .i64 x.ev]
def Sea.v (x : Sea) : V := .agg x.vs
def Sea.of (v : V) : Option Sea := match v with
  | .agg l => match Ck.p l with
    | some (own, [.int .i64 ev]) => some ⟨own, ev⟩
    | _ => none
  | _ => none
theorem Sea.of_eq {v : V} {x : Sea} (h : Sea.of v = some x) : v = x.v := by
  unfold Sea.of at h
  split at h
  · split at h
    · rename_i e
      cases h
      rw [Ck.p_eq e]
      rfl
    · cases h
  · cases h
def fwS : Rx.Spec := fun a b => match a, b with
  | [q, .int .i64 many, t], [] => match Sea.of q, Ste.of t with
    | some x, some s => .leaf ⟨.bool true, [], []⟩
    | _, _ => .fail
  | _, _ => .fail
theorem fw_ok : SpecOK P 3 fwS := by
  refine specOK_fast (.cons ne_ok (.cons (al_ok (srt := isoL) fun _ => rfl) (.cons le_ok (.nil P))) : GammaOK P fwG) hm (Λ := loopsOf [(5, foL)]) Try.func3 (by kernel_rfl) (LoopsOK.one (by kernel_rfl) fo_loop) ?_
  intro args bs r h
  unfold fwS at h
  split at h
  · rename_i q many t
    split at h
    · rename_i x s h1 h2
      have h1 := Sea.of_eq h1
      have h2 := Ste.of_eq h2
      subst h1 h2
      rw [denLf] at h
      cases h
      exact (fw_nf x.own x.ev many s).trans (fw_true x.own x.ev many s)
    · simp [den_fail] at h
  · simp [den_fail] at h
end Go.Proofs.Ytgdalboilghciaa
