/- Layer 8: who is over longest; how often an entry was heard. The conditions stand in the specifications. -/
import Derived.Test.YtgdalboilghciaaFoC
import Derived.Test.YtgdalboilghciaaRxB
set_option linter.unusedSimpArgs false
set_option linter.unusedVariables false
set_option linter.unnecessarySimpa false
set_option linter.unusedSectionVars false
set_option maxRecDepth 100000
set_option linter.unusedSimpArgs false
set_option linter.unusedVariables false
namespace Go.Proofs.Ytgdalboilghciaa
open Go.Rx
/-- A table's blocks, from the k-th on. -/
def tabK (k : Nat) (own : Ck) (win : Int) (es : TabE) : List Blk :=
  Body.cells (own.vs ++ [.int .i64 win, .mapr (k + 1)]) :: Body.kv (es.map fun x => x.1.v) (ptrsF (k + 2) es.length) :: es.map fun x => Body.cells x.2.vs
def tabPk (k : Nat) : List Blk → Option (Ck × Int × TabE)
  | Body.cells c :: Body.kv ks vs :: bs => match Ck.p c with
    | some (own, [.int .i64 win, .mapr b]) => match Nat.beq b (k + 1) && (isPtrs (k + 2) vs && Nat.beq vs.length ks.length), entsP ks bs with
      | true, some es => some (own, win, es)
      | _, _ => none
    | _ => none
  | _ => none
theorem tabPk_eq {k : Nat} {bs : List Blk} {own : Ck} {win : Int} {es : TabE} (h : tabPk k bs = some (own, win, es)) : bs = tabK k own win es := by
  unfold tabPk at h
  split at h
  · rename_i c ks vs bs
    split at h
    · rename_i o w b hc
      split at h
      · rename_i l h1 h2
        cases h
        simp only [Bool.and_eq_true, Nat.beq_eq] at h1
        obtain ⟨rfl, h1⟩ := h1
        obtain ⟨e1, e2⟩ := entsP_eq _ _ _ h2
        have hl : vs.length = es.length := by rw [h1.2, e1, List.length_map]
        rw [isPtrs_eq _ _ h1.1, hl, Ck.p_eq hc, e1, e2]
        rfl
      · cases h
    · cases h
  · cases h
def inE (p : Prt) : TabE → Bool
  | [] => false
  | e :: r => match p.eqB e.1 with
    | true => true
    | false => inE p r
noncomputable abbrev olG : List (Nat × Rx.Spec) := [(21, fFn P (specsOf []) (loopsOf []) Try.f21)]
theorem eqf (x p : Prt) : (x.c.b0 == p.c.b0 && (x.c.b1 == p.c.b1 && (x.c.b2 == p.c.b2 && (x.c.b3 == p.c.b3 && (x.c.b4 == p.c.b4 && (x.c.b5 == p.c.b5 && (x.c.b6 == p.c.b6 && (x.c.b7 == p.c.b7 && true))))))) && (x.n == p.n && true)) = x.eqB p := rfl
def clS2 : Rx.Spec := fun a b => match a, b with
  | [q1, q2, .ptr 0 0 0 0], Body.cells [.ptr 1 0 0 0] :: tb => match Prt.of q1, Prt.of q2, tabPk 1 tb with
    | some x, some y, some (own, win, es) => .need (Nat.beq es.length 5 && (inE x es && inE y es)) (.leaf ⟨.int .i64 (IntKind.i64.wrap ((lastE x es).2.1 - (lastE y es).2.1)), noneU (es.length + 1), []⟩)
    | _, _, _ => .fail
  | _, _ => .fail
theorem olG_ok : GammaOK P olG := laG_ok
theorem ocl (own : Ck) (win : Int) (a b : Prt) (p0 p1 p2 p3 p4 : Prt) (e0 e1 e2 e3 e4 : Ent) (hi : (inE a [(p0, e0), (p1, e1), (p2, e2), (p3, e3), (p4, e4)] && inE b [(p0, e0), (p1, e1), (p2, e2), (p3, e3), (p4, e4)]) = true) : (fFn P (specsOf olG) (loopsOf []) Try.f32 [a.v, b.v, .ptr 0 0 0 0] (Body.cells [.ptr 1 0 0 0] :: tabK 1 own win [(p0, e0), (p1, e1), (p2, e2), (p3, e3), (p4, e4)])).denN = (Tree.leaf ⟨.int .i64 (IntKind.i64.wrap ((lastE a [(p0, e0), (p1, e1), (p2, e2), (p3, e3), (p4, e4)]).2.1 - (lastE b [(p0, e0), (p1, e1), (p2, e2), (p3, e3), (p4, e4)]).2.1)), noneU 6, []⟩).denN := by
  rw [show (fFn P (specsOf olG) (loopsOf []) Try.f32 [a.v, b.v, .ptr 0 0 0 0] (Body.cells [.ptr 1 0 0 0] :: tabK 1 own win [(p0, e0), (p1, e1), (p2, e2), (p3, e3), (p4, e4)])).denN = Tree.denN (Tree.ite (Prt.eqB a p0) (Tree.ite (Prt.eqB b p0) (Tree.leaf { v := V.int IntKind.i64 (IntKind.i64.wrap (e0.t0 - e0.t0)), upd := [none, none, none, none, none, none, none, none], new := [] }) (Tree.ite (Prt.eqB b p1) (Tree.leaf { v := V.int IntKind.i64 (IntKind.i64.wrap (e0.t0 - e1.t0)), upd := [none, none, none, none, none, none, none, none], new := [] }) (Tree.ite (Prt.eqB b p2) (Tree.leaf { v := V.int IntKind.i64 (IntKind.i64.wrap (e0.t0 - e2.t0)), upd := [none, none, none, none, none, none, none, none], new := [] }) (Tree.ite (Prt.eqB b p3) (Tree.leaf { v := V.int IntKind.i64 (IntKind.i64.wrap (e0.t0 - e3.t0)), upd := [none, none, none, none, none, none, none, none], new := [] }) (Tree.ite (Prt.eqB b p4) (Tree.leaf { v := V.int IntKind.i64 (IntKind.i64.wrap (e0.t0 - e4.t0)), upd := [none, none, none, none, none, none, none, none], new := [] }) Tree.fail))))) (Tree.ite (Prt.eqB a p1) (Tree.ite (Prt.eqB b p0) (Tree.leaf { v := V.int IntKind.i64 (IntKind.i64.wrap (e1.t0 - e0.t0)), upd := [none, none, none, none, none, none, none, none], new := [] }) (Tree.ite (Prt.eqB b p1) (Tree.leaf { v := V.int IntKind.i64 (IntKind.i64.wrap (e1.t0 - e1.t0)), upd := [none, none, none, none, none, none, none, none], new := [] }) (Tree.ite (Prt.eqB b p2) (Tree.leaf { v := V.int IntKind.i64 (IntKind.i64.wrap (e1.t0 - e2.t0)), upd := [none, none, none, none, none, none, none, none], new := [] }) (Tree.ite (Prt.eqB b p3) (Tree.leaf { v := V.int IntKind.i64 (IntKind.i64.wrap (e1.t0 - e3.t0)), upd := [none, none, none, none, none, none, none, none], new := [] }) (Tree.ite (Prt.eqB b p4) (Tree.leaf { v := V.int IntKind.i64 (IntKind.i64.wrap (e1.t0 - e4.t0)), upd := [none, none, none, none, none, none, none, none], new := [] }) Tree.fail))))) (Tree.ite (Prt.eqB a p2) (Tree.ite (Prt.eqB b p0) (Tree.leaf { v := V.int IntKind.i64 (IntKind.i64.wrap (e2.t0 - e0.t0)), upd := [none, none, none, none, none, none, none, none], new := [] }) (Tree.ite (Prt.eqB b p1) (Tree.leaf { v := V.int IntKind.i64 (IntKind.i64.wrap (e2.t0 - e1.t0)), upd := [none, none, none, none, none, none, none, none], new := [] }) (Tree.ite (Prt.eqB b p2) (Tree.leaf { v := V.int IntKind.i64 (IntKind.i64.wrap (e2.t0 - e2.t0)), upd := [none, none, none, none, none, none, none, none], new := [] }) (Tree.ite (Prt.eqB b p3) (Tree.leaf { v := V.int IntKind.i64 (IntKind.i64.wrap (e2.t0 - e3.t0)), upd := [none, none, none, none, none, none, none, none], new := [] }) (Tree.ite (Prt.eqB b p4) (Tree.leaf { v := V.int IntKind.i64 (IntKind.i64.wrap (e2.t0 - e4.t0)), upd := [none, none, none, none, none, none, none, none], new := [] }) Tree.fail))))) (Tree.ite (Prt.eqB a p3) (Tree.ite (Prt.eqB b p0) (Tree.leaf { v := V.int IntKind.i64 (IntKind.i64.wrap (e3.t0 - e0.t0)), upd := [none, none, none, none, none, none, none, none], new := [] }) (Tree.ite (Prt.eqB b p1) (Tree.leaf { v := V.int IntKind.i64 (IntKind.i64.wrap (e3.t0 - e1.t0)), upd := [none, none, none, none, none, none, none, none], new := [] }) (Tree.ite (Prt.eqB b p2) (Tree.leaf { v := V.int IntKind.i64 (IntKind.i64.wrap (e3.t0 - e2.t0)), upd := [none, none, none, none, none, none, none, none], new := [] }) (Tree.ite (Prt.eqB b p3) (Tree.leaf { v := V.int IntKind.i64 (IntKind.i64.wrap (e3.t0 - e3.t0)), upd := [none, none, none, none, none, none, none, none], new := [] }) (Tree.ite (Prt.eqB b p4) (Tree.leaf { v := V.int IntKind.i64 (IntKind.i64.wrap (e3.t0 - e4.t0)), upd := [none, none, none, none, none, none, none, none], new := [] }) Tree.fail))))) (Tree.ite (Prt.eqB a p4) (Tree.ite (Prt.eqB b p0) (Tree.leaf { v := V.int IntKind.i64 (IntKind.i64.wrap (e4.t0 - e0.t0)), upd := [none, none, none, none, none, none, none, none], new := [] }) (Tree.ite (Prt.eqB b p1) (Tree.leaf { v := V.int IntKind.i64 (IntKind.i64.wrap (e4.t0 - e1.t0)), upd := [none, none, none, none, none, none, none, none], new := [] }) (Tree.ite (Prt.eqB b p2) (Tree.leaf { v := V.int IntKind.i64 (IntKind.i64.wrap (e4.t0 - e2.t0)), upd := [none, none, none, none, none, none, none, none], new := [] }) (Tree.ite (Prt.eqB b p3) (Tree.leaf { v := V.int IntKind.i64 (IntKind.i64.wrap (e4.t0 - e3.t0)), upd := [none, none, none, none, none, none, none, none], new := [] }) (Tree.ite (Prt.eqB b p4) (Tree.leaf { v := V.int IntKind.i64 (IntKind.i64.wrap (e4.t0 - e4.t0)), upd := [none, none, none, none, none, none, none, none], new := [] }) Tree.fail))))) Tree.fail))))) from by kernel_rfl]
  revert hi
  simp only [inE, lastE]
  cases a.eqB p0
  · cases a.eqB p1
    · cases a.eqB p2
      · cases a.eqB p3
        · cases a.eqB p4
          · exact fun h => Bool.noConfusion (show false = true from h)
          · cases b.eqB p0
            · cases b.eqB p1
              · cases b.eqB p2
                · cases b.eqB p3
                  · cases b.eqB p4
                    · exact fun h => Bool.noConfusion (show false = true from h)
                    · exact fun _ => by kernel_rfl
                  · exact fun _ => by kernel_rfl
                · exact fun _ => by kernel_rfl
              · exact fun _ => by kernel_rfl
            · exact fun _ => by kernel_rfl
        · cases b.eqB p0
          · cases b.eqB p1
            · cases b.eqB p2
              · cases b.eqB p3
                · cases b.eqB p4
                  · exact fun h => Bool.noConfusion (show false = true from h)
                  · exact fun _ => by kernel_rfl
                · exact fun _ => by kernel_rfl
              · exact fun _ => by kernel_rfl
            · exact fun _ => by kernel_rfl
          · exact fun _ => by kernel_rfl
      · cases b.eqB p0
        · cases b.eqB p1
          · cases b.eqB p2
            · cases b.eqB p3
              · cases b.eqB p4
                · exact fun h => Bool.noConfusion (show false = true from h)
                · exact fun _ => by kernel_rfl
              · exact fun _ => by kernel_rfl
            · exact fun _ => by kernel_rfl
          · exact fun _ => by kernel_rfl
        · exact fun _ => by kernel_rfl
    · cases b.eqB p0
      · cases b.eqB p1
        · cases b.eqB p2
          · cases b.eqB p3
            · cases b.eqB p4
              · exact fun h => Bool.noConfusion (show false = true from h)
              · exact fun _ => by kernel_rfl
            · exact fun _ => by kernel_rfl
          · exact fun _ => by kernel_rfl
        · exact fun _ => by kernel_rfl
      · exact fun _ => by kernel_rfl
  · cases b.eqB p0
    · cases b.eqB p1
      · cases b.eqB p2
        · cases b.eqB p3
          · cases b.eqB p4
            · exact fun h => Bool.noConfusion (show false = true from h)
            · exact fun _ => by kernel_rfl
          · exact fun _ => by kernel_rfl
        · exact fun _ => by kernel_rfl
      · exact fun _ => by kernel_rfl
    · exact fun _ => by kernel_rfl
theorem cl2_ok : SpecOK P 32 clS2 := by
  refine specOK_fast olG_ok hm (Λ := loopsOf []) Try.func32 (by kernel_rfl) (LoopsOK.nil (by kernel_rfl)) ?_
  intro args bs r h
  unfold clS2 at h
  split at h
  · rename_i q1 q2 tb
    split at h
    · rename_i x y own win es h1 h2 h3
      have h1 := Prt.of_eq h1
      have h2 := Prt.of_eq h2
      have h3 := tabPk_eq h3
      subst h1 h2 h3
      rw [den_need] at h
      obtain ⟨hn, h⟩ := h
      rw [Bool.and_eq_true, Nat.beq_eq] at hn
      obtain ⟨hl, hi⟩ := hn
      have h := denN_of h
      rw [← h]
      obtain ⟨⟨p0, e0⟩, ⟨p1, e1⟩, ⟨p2, e2⟩, ⟨p3, e3⟩, ⟨p4, e4⟩, rfl⟩ : ∃ x0 x1 x2 x3 x4, es = [x0, x1, x2, x3, x4] := by
        rcases es with _ | ⟨x0, _ | ⟨x1, _ | ⟨x2, _ | ⟨x3, _ | ⟨x4, _ | ⟨x5, es⟩⟩⟩⟩⟩⟩ <;> simp at hl
        exact ⟨_, _, _, _, _, rfl⟩
      exact ocl own win x y p0 p1 p2 p3 p4 e0 e1 e2 e3 e4 hi
    · simp [den_fail] at h
  · simp [den_fail] at h
abbrev oA (now : Int) (k : Int) : List V := [.int .i64 now, .ptr 0 0 0 0, .nils, .sl 1 0 0 9 5 none, .int .i64 5, .int .i64 k]
abbrev oB (now : Int) (m : Nat) (k : Int) : List V := [.int .i64 now, .ptr 0 0 0 0, .sl 1 0 0 9 m none, .sl 2 0 0 9 5 none, .int .i64 5, .int .i64 k]
abbrev obA (rs : List (List V)) (own : Ck) (win : Int) (es : TabE) : List Blk := Body.cells [.ptr 2 0 0 0] :: Body.rows pK rs :: tabK 2 own win es
abbrev obB (qs rs : List (List V)) (own : Ck) (win : Int) (es : TabE) : List Blk := Body.cells [.ptr 3 0 0 0] :: Body.rows pK qs :: Body.rows pK rs :: tabK 3 own win es
noncomputable abbrev oRd (vals : List V) (bs : List Blk) : Tree LRes := evRound P (specsOf olG) (loopsOf []) 42 [1, 2, 6, 10, 11, 12] [6] (loopAt Try.f23 0) vals bs
def ovC (es : TabE) (win now : Int) (x : Prt) : Bool := decide ((lastE x es).2.1 ≤ IntKind.i64.wrap (now - win))
theorem ovC_cons (e : Prt × Ent) (r : TabE) (win now : Int) (x : Prt) : ovC (e :: r) win now x = match x.eqB e.1 with | true => decide (e.2.t0 ≤ IntKind.i64.wrap (now - win)) | false => ovC r win now x := by
  unfold ovC
  rw [lastE]
  cases x.eqB e.1 <;> rfl
theorem ovC_nil (win now : Int) (x : Prt) : ovC [] win now x = decide ((0 : Int) ≤ IntKind.i64.wrap (now - win)) := rfl
theorem orB (own : Ck) (win now i : Int) (rs qs : List (List V)) (m : Nat) (p0 p1 p2 p3 p4 : Prt) (e0 e1 e2 e3 e4 : Ent) : (oRd (oB now m i) (obB qs rs own win [(p0, e0), (p1, e1), (p2, e2), (p3, e3), (p4, e4)])).den = Tree.den (Tree.ite (decide (i < 5)) (Tree.ite (decide (0 ≤ i) && decide (i < 5)) (Tree.ite (decide (0 + i.toNat < rs.length)) (Tree.ite ((V.toInt ((rs.getD (0 + i.toNat) []).getD 0 V.any)) == p0.c.1 && ((V.toInt ((rs.getD (0 + i.toNat) []).getD 1 V.any)) == p0.c.2 && ((V.toInt ((rs.getD (0 + i.toNat) []).getD 2 V.any)) == p0.c.3 && ((V.toInt ((rs.getD (0 + i.toNat) []).getD 3 V.any)) == p0.c.4 && ((V.toInt ((rs.getD (0 + i.toNat) []).getD 4 V.any)) == p0.c.5 && ((V.toInt ((rs.getD (0 + i.toNat) []).getD 5 V.any)) == p0.c.6 && ((V.toInt ((rs.getD (0 + i.toNat) []).getD 6 V.any)) == p0.c.7 && ((V.toInt ((rs.getD (0 + i.toNat) []).getD 7 V.any)) == p0.c.8 && true))))))) && ((V.toInt ((rs.getD (0 + i.toNat) []).getD 8 V.any)) == p0.2 && true)) (Tree.ite (decide (e0.t0 ≤ IntKind.i64.wrap (now - win))) (Tree.ite (decide (0 + m ≤ qs.length) && true) (Tree.ite (decide ((List.take m (List.drop 0 qs) ++ [[V.int IntKind.u8 (V.toInt ((rs.getD (0 + i.toNat) []).getD 0 V.any)), V.int IntKind.u8 (V.toInt ((rs.getD (0 + i.toNat) []).getD 1 V.any)), V.int IntKind.u8 (V.toInt ((rs.getD (0 + i.toNat) []).getD 2 V.any)), V.int IntKind.u8 (V.toInt ((rs.getD (0 + i.toNat) []).getD 3 V.any)), V.int IntKind.u8 (V.toInt ((rs.getD (0 + i.toNat) []).getD 4 V.any)), V.int IntKind.u8 (V.toInt ((rs.getD (0 + i.toNat) []).getD 5 V.any)), V.int IntKind.u8 (V.toInt ((rs.getD (0 + i.toNat) []).getD 6 V.any)), V.int IntKind.u8 (V.toInt ((rs.getD (0 + i.toNat) []).getD 7 V.any)), V.int IntKind.i64 (V.toInt ((rs.getD (0 + i.toNat) []).getD 8 V.any))]]).length * 16 ≤ 140737488355328)) (Tree.leaf { e := Ex.nrm, vs := [V.int IntKind.i64 now, V.ptr 0 0 0 0, V.sl 10 0 0 9 (List.take m (List.drop 0 qs) ++ [[V.int IntKind.u8 (V.toInt ((rs.getD (0 + i.toNat) []).getD 0 V.any)), V.int IntKind.u8 (V.toInt ((rs.getD (0 + i.toNat) []).getD 1 V.any)), V.int IntKind.u8 (V.toInt ((rs.getD (0 + i.toNat) []).getD 2 V.any)), V.int IntKind.u8 (V.toInt ((rs.getD (0 + i.toNat) []).getD 3 V.any)), V.int IntKind.u8 (V.toInt ((rs.getD (0 + i.toNat) []).getD 4 V.any)), V.int IntKind.u8 (V.toInt ((rs.getD (0 + i.toNat) []).getD 5 V.any)), V.int IntKind.u8 (V.toInt ((rs.getD (0 + i.toNat) []).getD 6 V.any)), V.int IntKind.u8 (V.toInt ((rs.getD (0 + i.toNat) []).getD 7 V.any)), V.int IntKind.i64 (V.toInt ((rs.getD (0 + i.toNat) []).getD 8 V.any))]]).length none, V.sl 2 0 0 9 5 none, V.int IntKind.i64 5, V.int IntKind.i64 (IntKind.i64.wrap (i + 1))], upd := [none, some none, none, none, none, none, none, none, none, none], new := [Body.rows [K.int IntKind.u8, K.int IntKind.u8, K.int IntKind.u8, K.int IntKind.u8, K.int IntKind.u8, K.int IntKind.u8, K.int IntKind.u8, K.int IntKind.u8, K.int IntKind.i64] (List.take m (List.drop 0 qs) ++ [[V.int IntKind.u8 (V.toInt ((rs.getD (0 + i.toNat) []).getD 0 V.any)), V.int IntKind.u8 (V.toInt ((rs.getD (0 + i.toNat) []).getD 1 V.any)), V.int IntKind.u8 (V.toInt ((rs.getD (0 + i.toNat) []).getD 2 V.any)), V.int IntKind.u8 (V.toInt ((rs.getD (0 + i.toNat) []).getD 3 V.any)), V.int IntKind.u8 (V.toInt ((rs.getD (0 + i.toNat) []).getD 4 V.any)), V.int IntKind.u8 (V.toInt ((rs.getD (0 + i.toNat) []).getD 5 V.any)), V.int IntKind.u8 (V.toInt ((rs.getD (0 + i.toNat) []).getD 6 V.any)), V.int IntKind.u8 (V.toInt ((rs.getD (0 + i.toNat) []).getD 7 V.any)), V.int IntKind.i64 (V.toInt ((rs.getD (0 + i.toNat) []).getD 8 V.any))]])] }) Tree.fail) Tree.fail) (Tree.leaf { e := Ex.nrm, vs := [V.int IntKind.i64 now, V.ptr 0 0 0 0, V.sl 1 0 0 9 m none, V.sl 2 0 0 9 5 none, V.int IntKind.i64 5, V.int IntKind.i64 (IntKind.i64.wrap (i + 1))], upd := [none, none, none, none, none, none, none, none, none, none], new := [] })) (Tree.ite ((V.toInt ((rs.getD (0 + i.toNat) []).getD 0 V.any)) == p1.c.1 && ((V.toInt ((rs.getD (0 + i.toNat) []).getD 1 V.any)) == p1.c.2 && ((V.toInt ((rs.getD (0 + i.toNat) []).getD 2 V.any)) == p1.c.3 && ((V.toInt ((rs.getD (0 + i.toNat) []).getD 3 V.any)) == p1.c.4 && ((V.toInt ((rs.getD (0 + i.toNat) []).getD 4 V.any)) == p1.c.5 && ((V.toInt ((rs.getD (0 + i.toNat) []).getD 5 V.any)) == p1.c.6 && ((V.toInt ((rs.getD (0 + i.toNat) []).getD 6 V.any)) == p1.c.7 && ((V.toInt ((rs.getD (0 + i.toNat) []).getD 7 V.any)) == p1.c.8 && true))))))) && ((V.toInt ((rs.getD (0 + i.toNat) []).getD 8 V.any)) == p1.2 && true)) (Tree.ite (decide (e1.t0 ≤ IntKind.i64.wrap (now - win))) (Tree.ite (decide (0 + m ≤ qs.length) && true) (Tree.ite (decide ((List.take m (List.drop 0 qs) ++ [[V.int IntKind.u8 (V.toInt ((rs.getD (0 + i.toNat) []).getD 0 V.any)), V.int IntKind.u8 (V.toInt ((rs.getD (0 + i.toNat) []).getD 1 V.any)), V.int IntKind.u8 (V.toInt ((rs.getD (0 + i.toNat) []).getD 2 V.any)), V.int IntKind.u8 (V.toInt ((rs.getD (0 + i.toNat) []).getD 3 V.any)), V.int IntKind.u8 (V.toInt ((rs.getD (0 + i.toNat) []).getD 4 V.any)), V.int IntKind.u8 (V.toInt ((rs.getD (0 + i.toNat) []).getD 5 V.any)), V.int IntKind.u8 (V.toInt ((rs.getD (0 + i.toNat) []).getD 6 V.any)), V.int IntKind.u8 (V.toInt ((rs.getD (0 + i.toNat) []).getD 7 V.any)), V.int IntKind.i64 (V.toInt ((rs.getD (0 + i.toNat) []).getD 8 V.any))]]).length * 16 ≤ 140737488355328)) (Tree.leaf { e := Ex.nrm, vs := [V.int IntKind.i64 now, V.ptr 0 0 0 0, V.sl 10 0 0 9 (List.take m (List.drop 0 qs) ++ [[V.int IntKind.u8 (V.toInt ((rs.getD (0 + i.toNat) []).getD 0 V.any)), V.int IntKind.u8 (V.toInt ((rs.getD (0 + i.toNat) []).getD 1 V.any)), V.int IntKind.u8 (V.toInt ((rs.getD (0 + i.toNat) []).getD 2 V.any)), V.int IntKind.u8 (V.toInt ((rs.getD (0 + i.toNat) []).getD 3 V.any)), V.int IntKind.u8 (V.toInt ((rs.getD (0 + i.toNat) []).getD 4 V.any)), V.int IntKind.u8 (V.toInt ((rs.getD (0 + i.toNat) []).getD 5 V.any)), V.int IntKind.u8 (V.toInt ((rs.getD (0 + i.toNat) []).getD 6 V.any)), V.int IntKind.u8 (V.toInt ((rs.getD (0 + i.toNat) []).getD 7 V.any)), V.int IntKind.i64 (V.toInt ((rs.getD (0 + i.toNat) []).getD 8 V.any))]]).length none, V.sl 2 0 0 9 5 none, V.int IntKind.i64 5, V.int IntKind.i64 (IntKind.i64.wrap (i + 1))], upd := [none, some none, none, none, none, none, none, none, none, none], new := [Body.rows [K.int IntKind.u8, K.int IntKind.u8, K.int IntKind.u8, K.int IntKind.u8, K.int IntKind.u8, K.int IntKind.u8, K.int IntKind.u8, K.int IntKind.u8, K.int IntKind.i64] (List.take m (List.drop 0 qs) ++ [[V.int IntKind.u8 (V.toInt ((rs.getD (0 + i.toNat) []).getD 0 V.any)), V.int IntKind.u8 (V.toInt ((rs.getD (0 + i.toNat) []).getD 1 V.any)), V.int IntKind.u8 (V.toInt ((rs.getD (0 + i.toNat) []).getD 2 V.any)), V.int IntKind.u8 (V.toInt ((rs.getD (0 + i.toNat) []).getD 3 V.any)), V.int IntKind.u8 (V.toInt ((rs.getD (0 + i.toNat) []).getD 4 V.any)), V.int IntKind.u8 (V.toInt ((rs.getD (0 + i.toNat) []).getD 5 V.any)), V.int IntKind.u8 (V.toInt ((rs.getD (0 + i.toNat) []).getD 6 V.any)), V.int IntKind.u8 (V.toInt ((rs.getD (0 + i.toNat) []).getD 7 V.any)), V.int IntKind.i64 (V.toInt ((rs.getD (0 + i.toNat) []).getD 8 V.any))]])] }) Tree.fail) Tree.fail) (Tree.leaf { e := Ex.nrm, vs := [V.int IntKind.i64 now, V.ptr 0 0 0 0, V.sl 1 0 0 9 m none, V.sl 2 0 0 9 5 none, V.int IntKind.i64 5, V.int IntKind.i64 (IntKind.i64.wrap (i + 1))], upd := [none, none, none, none, none, none, none, none, none, none], new := [] })) (Tree.ite ((V.toInt ((rs.getD (0 + i.toNat) []).getD 0 V.any)) == p2.c.1 && ((V.toInt ((rs.getD (0 + i.toNat) []).getD 1 V.any)) == p2.c.2 && ((V.toInt ((rs.getD (0 + i.toNat) []).getD 2 V.any)) == p2.c.3 && ((V.toInt ((rs.getD (0 + i.toNat) []).getD 3 V.any)) == p2.c.4 && ((V.toInt ((rs.getD (0 + i.toNat) []).getD 4 V.any)) == p2.c.5 && ((V.toInt ((rs.getD (0 + i.toNat) []).getD 5 V.any)) == p2.c.6 && ((V.toInt ((rs.getD (0 + i.toNat) []).getD 6 V.any)) == p2.c.7 && ((V.toInt ((rs.getD (0 + i.toNat) []).getD 7 V.any)) == p2.c.8 && true))))))) && ((V.toInt ((rs.getD (0 + i.toNat) []).getD 8 V.any)) == p2.2 && true)) (Tree.ite (decide (e2.t0 ≤ IntKind.i64.wrap (now - win))) (Tree.ite (decide (0 + m ≤ qs.length) && true) (Tree.ite (decide ((List.take m (List.drop 0 qs) ++ [[V.int IntKind.u8 (V.toInt ((rs.getD (0 + i.toNat) []).getD 0 V.any)), V.int IntKind.u8 (V.toInt ((rs.getD (0 + i.toNat) []).getD 1 V.any)), V.int IntKind.u8 (V.toInt ((rs.getD (0 + i.toNat) []).getD 2 V.any)), V.int IntKind.u8 (V.toInt ((rs.getD (0 + i.toNat) []).getD 3 V.any)), V.int IntKind.u8 (V.toInt ((rs.getD (0 + i.toNat) []).getD 4 V.any)), V.int IntKind.u8 (V.toInt ((rs.getD (0 + i.toNat) []).getD 5 V.any)), V.int IntKind.u8 (V.toInt ((rs.getD (0 + i.toNat) []).getD 6 V.any)), V.int IntKind.u8 (V.toInt ((rs.getD (0 + i.toNat) []).getD 7 V.any)), V.int IntKind.i64 (V.toInt ((rs.getD (0 + i.toNat) []).getD 8 V.any))]]).length * 16 ≤ 140737488355328)) (Tree.leaf { e := Ex.nrm, vs := [V.int IntKind.i64 now, V.ptr 0 0 0 0, V.sl 10 0 0 9 (List.take m (List.drop 0 qs) ++ [[V.int IntKind.u8 (V.toInt ((rs.getD (0 + i.toNat) []).getD 0 V.any)), V.int IntKind.u8 (V.toInt ((rs.getD (0 + i.toNat) []).getD 1 V.any)), V.int IntKind.u8 (V.toInt ((rs.getD (0 + i.toNat) []).getD 2 V.any)), V.int IntKind.u8 (V.toInt ((rs.getD (0 + i.toNat) []).getD 3 V.any)), V.int IntKind.u8 (V.toInt ((rs.getD (0 + i.toNat) []).getD 4 V.any)), V.int IntKind.u8 (V.toInt ((rs.getD (0 + i.toNat) []).getD 5 V.any)), V.int IntKind.u8 (V.toInt ((rs.getD (0 + i.toNat) []).getD 6 V.any)), V.int IntKind.u8 (V.toInt ((rs.getD (0 + i.toNat) []).getD 7 V.any)), V.int IntKind.i64 (V.toInt ((rs.getD (0 + i.toNat) []).getD 8 V.any))]]).length none, V.sl 2 0 0 9 5 none, V.int IntKind.i64 5, V.int IntKind.i64 (IntKind.i64.wrap (i + 1))], upd := [none, some none, none, none, none, none, none, none, none, none], new := [Body.rows [K.int IntKind.u8, K.int IntKind.u8, K.int IntKind.u8, K.int IntKind.u8, K.int IntKind.u8, K.int IntKind.u8, K.int IntKind.u8, K.int IntKind.u8, K.int IntKind.i64] (List.take m (List.drop 0 qs) ++ [[V.int IntKind.u8 (V.toInt ((rs.getD (0 + i.toNat) []).getD 0 V.any)), V.int IntKind.u8 (V.toInt ((rs.getD (0 + i.toNat) []).getD 1 V.any)), V.int IntKind.u8 (V.toInt ((rs.getD (0 + i.toNat) []).getD 2 V.any)), V.int IntKind.u8 (V.toInt ((rs.getD (0 + i.toNat) []).getD 3 V.any)), V.int IntKind.u8 (V.toInt ((rs.getD (0 + i.toNat) []).getD 4 V.any)), V.int IntKind.u8 (V.toInt ((rs.getD (0 + i.toNat) []).getD 5 V.any)), V.int IntKind.u8 (V.toInt ((rs.getD (0 + i.toNat) []).getD 6 V.any)), V.int IntKind.u8 (V.toInt ((rs.getD (0 + i.toNat) []).getD 7 V.any)), V.int IntKind.i64 (V.toInt ((rs.getD (0 + i.toNat) []).getD 8 V.any))]])] }) Tree.fail) Tree.fail) (Tree.leaf { e := Ex.nrm, vs := [V.int IntKind.i64 now, V.ptr 0 0 0 0, V.sl 1 0 0 9 m none, V.sl 2 0 0 9 5 none, V.int IntKind.i64 5, V.int IntKind.i64 (IntKind.i64.wrap (i + 1))], upd := [none, none, none, none, none, none, none, none, none, none], new := [] })) (Tree.ite ((V.toInt ((rs.getD (0 + i.toNat) []).getD 0 V.any)) == p3.c.1 && ((V.toInt ((rs.getD (0 + i.toNat) []).getD 1 V.any)) == p3.c.2 && ((V.toInt ((rs.getD (0 + i.toNat) []).getD 2 V.any)) == p3.c.3 && ((V.toInt ((rs.getD (0 + i.toNat) []).getD 3 V.any)) == p3.c.4 && ((V.toInt ((rs.getD (0 + i.toNat) []).getD 4 V.any)) == p3.c.5 && ((V.toInt ((rs.getD (0 + i.toNat) []).getD 5 V.any)) == p3.c.6 && ((V.toInt ((rs.getD (0 + i.toNat) []).getD 6 V.any)) == p3.c.7 && ((V.toInt ((rs.getD (0 + i.toNat) []).getD 7 V.any)) == p3.c.8 && true))))))) && ((V.toInt ((rs.getD (0 + i.toNat) []).getD 8 V.any)) == p3.2 && true)) (Tree.ite (decide (e3.t0 ≤ IntKind.i64.wrap (now - win))) (Tree.ite (decide (0 + m ≤ qs.length) && true) (Tree.ite (decide ((List.take m (List.drop 0 qs) ++ [[V.int IntKind.u8 (V.toInt ((rs.getD (0 + i.toNat) []).getD 0 V.any)), V.int IntKind.u8 (V.toInt ((rs.getD (0 + i.toNat) []).getD 1 V.any)), V.int IntKind.u8 (V.toInt ((rs.getD (0 + i.toNat) []).getD 2 V.any)), V.int IntKind.u8 (V.toInt ((rs.getD (0 + i.toNat) []).getD 3 V.any)), V.int IntKind.u8 (V.toInt ((rs.getD (0 + i.toNat) []).getD 4 V.any)), V.int IntKind.u8 (V.toInt ((rs.getD (0 + i.toNat) []).getD 5 V.any)), V.int IntKind.u8 (V.toInt ((rs.getD (0 + i.toNat) []).getD 6 V.any)), V.int IntKind.u8 (V.toInt ((rs.getD (0 + i.toNat) []).getD 7 V.any)), V.int IntKind.i64 (V.toInt ((rs.getD (0 + i.toNat) []).getD 8 V.any))]]).length * 16 ≤ 140737488355328)) (Tree.leaf { e := Ex.nrm, vs := [V.int IntKind.i64 now, V.ptr 0 0 0 0, V.sl 10 0 0 9 (List.take m (List.drop 0 qs) ++ [[V.int IntKind.u8 (V.toInt ((rs.getD (0 + i.toNat) []).getD 0 V.any)), V.int IntKind.u8 (V.toInt ((rs.getD (0 + i.toNat) []).getD 1 V.any)), V.int IntKind.u8 (V.toInt ((rs.getD (0 + i.toNat) []).getD 2 V.any)), V.int IntKind.u8 (V.toInt ((rs.getD (0 + i.toNat) []).getD 3 V.any)), V.int IntKind.u8 (V.toInt ((rs.getD (0 + i.toNat) []).getD 4 V.any)), V.int IntKind.u8 (V.toInt ((rs.getD (0 + i.toNat) []).getD 5 V.any)), V.int IntKind.u8 (V.toInt ((rs.getD (0 + i.toNat) []).getD 6 V.any)), V.int IntKind.u8 (V.toInt ((rs.getD (0 + i.toNat) []).getD 7 V.any)), V.int IntKind.i64 (V.toInt ((rs.getD (0 + i.toNat) []).getD 8 V.any))]]).length none, V.sl 2 0 0 9 5 none, V.int IntKind.i64 5, V.int IntKind.i64 (IntKind.i64.wrap (i + 1))], upd := [none, some none, none, none, none, none, none, none, none, none], new := [Body.rows [K.int IntKind.u8, K.int IntKind.u8, K.int IntKind.u8, K.int IntKind.u8, K.int IntKind.u8, K.int IntKind.u8, K.int IntKind.u8, K.int IntKind.u8, K.int IntKind.i64] (List.take m (List.drop 0 qs) ++ [[V.int IntKind.u8 (V.toInt ((rs.getD (0 + i.toNat) []).getD 0 V.any)), V.int IntKind.u8 (V.toInt ((rs.getD (0 + i.toNat) []).getD 1 V.any)), V.int IntKind.u8 (V.toInt ((rs.getD (0 + i.toNat) []).getD 2 V.any)), V.int IntKind.u8 (V.toInt ((rs.getD (0 + i.toNat) []).getD 3 V.any)), V.int IntKind.u8 (V.toInt ((rs.getD (0 + i.toNat) []).getD 4 V.any)), V.int IntKind.u8 (V.toInt ((rs.getD (0 + i.toNat) []).getD 5 V.any)), V.int IntKind.u8 (V.toInt ((rs.getD (0 + i.toNat) []).getD 6 V.any)), V.int IntKind.u8 (V.toInt ((rs.getD (0 + i.toNat) []).getD 7 V.any)), V.int IntKind.i64 (V.toInt ((rs.getD (0 + i.toNat) []).getD 8 V.any))]])] }) Tree.fail) Tree.fail) (Tree.leaf { e := Ex.nrm, vs := [V.int IntKind.i64 now, V.ptr 0 0 0 0, V.sl 1 0 0 9 m none, V.sl 2 0 0 9 5 none, V.int IntKind.i64 5, V.int IntKind.i64 (IntKind.i64.wrap (i + 1))], upd := [none, none, none, none, none, none, none, none, none, none], new := [] })) (Tree.ite ((V.toInt ((rs.getD (0 + i.toNat) []).getD 0 V.any)) == p4.c.1 && ((V.toInt ((rs.getD (0 + i.toNat) []).getD 1 V.any)) == p4.c.2 && ((V.toInt ((rs.getD (0 + i.toNat) []).getD 2 V.any)) == p4.c.3 && ((V.toInt ((rs.getD (0 + i.toNat) []).getD 3 V.any)) == p4.c.4 && ((V.toInt ((rs.getD (0 + i.toNat) []).getD 4 V.any)) == p4.c.5 && ((V.toInt ((rs.getD (0 + i.toNat) []).getD 5 V.any)) == p4.c.6 && ((V.toInt ((rs.getD (0 + i.toNat) []).getD 6 V.any)) == p4.c.7 && ((V.toInt ((rs.getD (0 + i.toNat) []).getD 7 V.any)) == p4.c.8 && true))))))) && ((V.toInt ((rs.getD (0 + i.toNat) []).getD 8 V.any)) == p4.2 && true)) (Tree.ite (decide (e4.t0 ≤ IntKind.i64.wrap (now - win))) (Tree.ite (decide (0 + m ≤ qs.length) && true) (Tree.ite (decide ((List.take m (List.drop 0 qs) ++ [[V.int IntKind.u8 (V.toInt ((rs.getD (0 + i.toNat) []).getD 0 V.any)), V.int IntKind.u8 (V.toInt ((rs.getD (0 + i.toNat) []).getD 1 V.any)), V.int IntKind.u8 (V.toInt ((rs.getD (0 + i.toNat) []).getD 2 V.any)), V.int IntKind.u8 (V.toInt ((rs.getD (0 + i.toNat) []).getD 3 V.any)), V.int IntKind.u8 (V.toInt ((rs.getD (0 + i.toNat) []).getD 4 V.any)), V.int IntKind.u8 (V.toInt ((rs.getD (0 + i.toNat) []).getD 5 V.any)), V.int IntKind.u8 (V.toInt ((rs.getD (0 + i.toNat) []).getD 6 V.any)), V.int IntKind.u8 (V.toInt ((rs.getD (0 + i.toNat) []).getD 7 V.any)), V.int IntKind.i64 (V.toInt ((rs.getD (0 + i.toNat) []).getD 8 V.any))]]).length * 16 ≤ 140737488355328)) (Tree.leaf { e := Ex.nrm, vs := [V.int IntKind.i64 now, V.ptr 0 0 0 0, V.sl 10 0 0 9 (List.take m (List.drop 0 qs) ++ [[V.int IntKind.u8 (V.toInt ((rs.getD (0 + i.toNat) []).getD 0 V.any)), V.int IntKind.u8 (V.toInt ((rs.getD (0 + i.toNat) []).getD 1 V.any)), V.int IntKind.u8 (V.toInt ((rs.getD (0 + i.toNat) []).getD 2 V.any)), V.int IntKind.u8 (V.toInt ((rs.getD (0 + i.toNat) []).getD 3 V.any)), V.int IntKind.u8 (V.toInt ((rs.getD (0 + i.toNat) []).getD 4 V.any)), V.int IntKind.u8 (V.toInt ((rs.getD (0 + i.toNat) []).getD 5 V.any)), V.int IntKind.u8 (V.toInt ((rs.getD (0 + i.toNat) []).getD 6 V.any)), V.int IntKind.u8 (V.toInt ((rs.getD (0 + i.toNat) []).getD 7 V.any)), V.int IntKind.i64 (V.toInt ((rs.getD (0 + i.toNat) []).getD 8 V.any))]]).length none, V.sl 2 0 0 9 5 none, V.int IntKind.i64 5, V.int IntKind.i64 (IntKind.i64.wrap (i + 1))], upd := [none, some none, none, none, none, none, none, none, none, none], new := [Body.rows [K.int IntKind.u8, K.int IntKind.u8, K.int IntKind.u8, K.int IntKind.u8, K.int IntKind.u8, K.int IntKind.u8, K.int IntKind.u8, K.int IntKind.u8, K.int IntKind.i64] (List.take m (List.drop 0 qs) ++ [[V.int IntKind.u8 (V.toInt ((rs.getD (0 + i.toNat) []).getD 0 V.any)), V.int IntKind.u8 (V.toInt ((rs.getD (0 + i.toNat) []).getD 1 V.any)), V.int IntKind.u8 (V.toInt ((rs.getD (0 + i.toNat) []).getD 2 V.any)), V.int IntKind.u8 (V.toInt ((rs.getD (0 + i.toNat) []).getD 3 V.any)), V.int IntKind.u8 (V.toInt ((rs.getD (0 + i.toNat) []).getD 4 V.any)), V.int IntKind.u8 (V.toInt ((rs.getD (0 + i.toNat) []).getD 5 V.any)), V.int IntKind.u8 (V.toInt ((rs.getD (0 + i.toNat) []).getD 6 V.any)), V.int IntKind.u8 (V.toInt ((rs.getD (0 + i.toNat) []).getD 7 V.any)), V.int IntKind.i64 (V.toInt ((rs.getD (0 + i.toNat) []).getD 8 V.any))]])] }) Tree.fail) Tree.fail) (Tree.leaf { e := Ex.nrm, vs := [V.int IntKind.i64 now, V.ptr 0 0 0 0, V.sl 1 0 0 9 m none, V.sl 2 0 0 9 5 none, V.int IntKind.i64 5, V.int IntKind.i64 (IntKind.i64.wrap (i + 1))], upd := [none, none, none, none, none, none, none, none, none, none], new := [] })) Tree.fail))))) Tree.fail) Tree.fail) (Tree.leaf { e := Ex.exit 0, vs := [V.sl 1 0 0 9 m none], upd := [none, none, none, none, none, none, none, none, none, none], new := [] })) := by
  kernel_rfl
theorem orB' (own : Ck) (win now : Int) (k : Nat) (l q : List Prt) (x : Prt) (p0 p1 p2 p3 p4 : Prt) (e0 e1 e2 e3 e4 : Ent) (hx : l[k]? = some x) (hk : k < 5) (hq : q.length < 5) (hi : inE x [(p0, e0), (p1, e1), (p2, e2), (p3, e3), (p4, e4)] = true) :
    (oRd (oB now q.length k) (obB (q.map Prt.vs) (l.map Prt.vs) own win [(p0, e0), (p1, e1), (p2, e2), (p3, e3), (p4, e4)])).den = some (match ovC [(p0, e0), (p1, e1), (p2, e2), (p3, e3), (p4, e4)] win now x with
      | true => ⟨.nrm, oB now 1 (k + 1 : Nat) |>.set 2 (.sl 10 0 0 9 (q ++ [x]).length none), none :: some none :: List.replicate 8 none, [.rows pK ((q ++ [x]).map Prt.vs)]⟩
      | false => ⟨.nrm, oB now q.length (k + 1 : Nat), List.replicate 10 none, []⟩) := by
  have st := orB own win now k (l.map Prt.vs) (q.map Prt.vs) q.length p0 p1 p2 p3 p4 e0 e1 e2 e3 e4
  have ht : List.take q.length (List.drop 0 (q.map Prt.vs)) = q.map Prt.vs := by rw [List.drop_zero]; exact List.take_of_length_le (by simp)
  have ha : q.map Prt.vs ++ [x.vs] = (q ++ [x]).map Prt.vs := by simp
  have hgi : (l.map Prt.vs).getD k [] = x.vs := by
    rw [List.getD_eq_getElem?_getD, List.getElem?_map, hx]; rfl
  have hkl : k < l.length := (List.getElem?_eq_some_iff.1 hx).1
  obtain ⟨⟨x0, x1, x2, x3⟩, x4, x5, x6, x7, x8⟩ := vsp x
  have w1 : IntKind.i64.wrap (((k : Nat) : Int) + 1) = ((k + 1 : Nat) : Int) := by rw [wrap64_id (by omega) (by omega)]; omega
  simp only [hgi, x0, x1, x2, x3, x4, x5, x6, x7, x8, vsx, eqf, w1, ht, ha, Int.toNat_natCast, Nat.zero_add, List.length_map] at st
  rw [decide_eq_true (show ((k : Nat) : Int) < (5 : Int) by omega), decide_eq_true (show (0 : Int) ≤ ((k : Nat) : Int) by omega), decide_eq_true hkl, decide_eq_true (show q.length ≤ q.length from Nat.le_refl _), decide_eq_true (show (q ++ [x]).length * 16 ≤ 140737488355328 by rw [List.length_append, List.length_singleton]; omega)] at st
  refine st.trans ?_
  clear st
  revert hi
  simp only [inE, ovC_cons, ovC_nil]
  cases x.eqB p0
  · cases x.eqB p1
    · cases x.eqB p2
      · cases x.eqB p3
        · cases x.eqB p4
          · exact fun h => Bool.noConfusion (show false = true from h)
          · cases hd : decide (e4.t0 ≤ IntKind.i64.wrap (now - win))
            · exact fun _ => by kernel_rfl
            · exact fun _ => by kernel_rfl
        · cases hd : decide (e3.t0 ≤ IntKind.i64.wrap (now - win))
          · exact fun _ => by kernel_rfl
          · exact fun _ => by kernel_rfl
      · cases hd : decide (e2.t0 ≤ IntKind.i64.wrap (now - win))
        · exact fun _ => by kernel_rfl
        · exact fun _ => by kernel_rfl
    · cases hd : decide (e1.t0 ≤ IntKind.i64.wrap (now - win))
      · exact fun _ => by kernel_rfl
      · exact fun _ => by kernel_rfl
  · cases hd : decide (e0.t0 ≤ IntKind.i64.wrap (now - win))
    · exact fun _ => by kernel_rfl
    · exact fun _ => by kernel_rfl
end Go.Proofs.Ytgdalboilghciaa

set_option maxRecDepth 100000
set_option linter.unusedSimpArgs false
set_option linter.unusedVariables false
namespace Go.Proofs.Ytgdalboilghciaa
open Go.Rx
def resB (m : Nat) (tot : List Prt) : Bool → LRes
  | false => ⟨.exit 0, [.sl 1 0 0 9 m none], List.replicate 10 none, []⟩
  | true => ⟨.exit 0, [.sl 10 0 0 9 tot.length none], none :: some none :: List.replicate 8 none, [.rows pK (tot.map Prt.vs)]⟩
def resA (tot : List Prt) : Bool → LRes
  | true => ⟨.exit 0, [.nils], List.replicate 9 none, []⟩
  | false => ⟨.exit 0, [.sl 9 0 0 9 tot.length none], List.replicate 9 none, [.rows pK (tot.map Prt.vs)]⟩
noncomputable abbrev oLN (f : Nat) (vals : List V) (bs : List Blk) : Tree LRes := loopN P (specsOf olG) (loopsOf []) 42 [1, 2, 6, 10, 11, 12] [6] (loopAt Try.f23 0) f vals bs
theorem drop_cons {α : Type} {l rest : List α} {k : Nat} {x : α} (h : l.drop k = x :: rest) : l[k]? = some x ∧ l.drop (k + 1) = rest ∧ k < l.length := by
  have h1 : l[k]? = some x := by
    have : (l.drop k)[0]? = some x := by rw [h]; rfl
    rw [List.getElem?_drop] at this
    simpa using this
  refine ⟨h1, ?_, (List.getElem?_eq_some_iff.1 h1).1⟩
  have : (l.drop k).drop 1 = rest := by rw [h]; rfl
  rw [List.drop_drop] at this
  exact this
theorem oB_all (own : Ck) (win now : Int) (l : List Prt) (p0 p1 p2 p3 p4 : Prt) (e0 e1 e2 e3 e4 : Ent) (hl : l.length = 5) (hi : ∀ x ∈ l, inE x [(p0, e0), (p1, e1), (p2, e2), (p3, e3), (p4, e4)] = true) :
    ∀ (rest : List Prt) (k : Nat) (q : List Prt), l.drop k = rest → k ≤ 5 → q.length ≤ k →
    ∃ f, (oLN f (oB now q.length k) (obB (q.map Prt.vs) (l.map Prt.vs) own win [(p0, e0), (p1, e1), (p2, e2), (p3, e3), (p4, e4)])).den = some (resB q.length (q ++ rest.filter (ovC [(p0, e0), (p1, e1), (p2, e2), (p3, e3), (p4, e4)] win now)) (!(rest.filter (ovC [(p0, e0), (p1, e1), (p2, e2), (p3, e3), (p4, e4)] win now)).isEmpty)) := by
  intro rest
  induction rest with
  | nil =>
    intro k q hd hk hq
    have hk5 : k = 5 := by
      have := congrArg List.length hd
      rw [List.length_drop, hl, List.length_nil] at this
      omega
    subst hk5
    refine ⟨1, ?_⟩
    have hx := orB own win now ((5 : Nat) : Int) (l.map Prt.vs) (q.map Prt.vs) q.length p0 p1 p2 p3 p4 e0 e1 e2 e3 e4
    rw [decide_eq_false (show ¬ ((5 : Nat) : Int) < (5 : Int) by decide)] at hx
    exact loopN_end hx (by show Ex.exit 0 ≠ Ex.nrm; decide)
  | cons x rest ih =>
    intro k q hd hk hq
    obtain ⟨hx, hd', hkl⟩ := drop_cons hd
    have st := orB' own win now k l q x p0 p1 p2 p3 p4 e0 e1 e2 e3 e4 hx (by omega) (by omega) (hi x (List.mem_of_getElem? hx))
    cases hc : ovC [(p0, e0), (p1, e1), (p2, e2), (p3, e3), (p4, e4)] win now x with
    | false =>
      rw [hc] at st
      obtain ⟨f, hf⟩ := ih (k + 1) q hd' (by omega) (by omega)
      refine ⟨f + 1, ?_⟩
      rw [List.filter_cons_of_neg (by rw [hc]; simp)]
      refine loopN_step st rfl (vals' := oB now q.length (k + 1 : Nat)) (bs' := obB (q.map Prt.vs) (l.map Prt.vs) own win [(p0, e0), (p1, e1), (p2, e2), (p3, e3), (p4, e4)]) (by kernel_rfl) (by kernel_rfl) (by kernel_rfl) hf ?_
      generalize rest.filter _ = F
      cases F with
      | nil => (show (seqAfter _ _ _).den = some _; kernel_rfl)
      | cons a b => (show (seqAfter _ _ _).den = some _; kernel_rfl)
    | true =>
      rw [hc] at st
      obtain ⟨f, hf⟩ := ih (k + 1) (q ++ [x]) hd' (by omega) (by rw [List.length_append, List.length_singleton]; omega)
      refine ⟨f + 1, ?_⟩
      rw [List.filter_cons_of_pos (by rw [hc])]
      refine loopN_step st rfl (vals' := oB now (q ++ [x]).length (k + 1 : Nat)) (bs' := obB ((q ++ [x]).map Prt.vs) (l.map Prt.vs) own win [(p0, e0), (p1, e1), (p2, e2), (p3, e3), (p4, e4)]) (by kernel_rfl) (by kernel_rfl) (by kernel_rfl) hf ?_
      generalize rest.filter _ = F
      rw [show q ++ [x] ++ F = q ++ x :: F by simp]
      cases F with
      | nil => (show (seqAfter _ _ _).den = some _; kernel_rfl)
      | cons a b => (show (seqAfter _ _ _).den = some _; kernel_rfl)
def okR (n : Nat) (rs : List (List V)) (es : TabE) : Bool := (parseR rs).isSome && (Nat.beq (prts rs).length n && ((prts rs).all (fun x => inE x es) && Nat.beq es.length n))
def ovLf (vals : List V) (bs : List Blk) : Tree LRes := match vals, bs with
  | [.int .i64 now, .ptr 0 0 0 0, .sl 1 0 0 9 0 none, .sl 2 0 0 9 5 none, .int .i64 5, .int .i64 0], Body.cells [.ptr 3 0 0 0] :: Body.rows sch0 [] :: Body.rows sch rs :: tb => match tabPk 3 tb with
    | some (own, win, es) => .lit (decide (sch = pK) && decide (sch0 = pK)) (.need (okR 5 rs es) (.ite ((prts rs).filter (ovC es win now)).isEmpty (.leaf (resB 0 [] false)) (.leaf (resB 0 ((prts rs).filter (ovC es win now)) true))))
    | none => .fail
  | _, _ => .fail
abbrev ovL : LSpec := ⟨42, [1, 2, 6, 10, 11, 12], [6], ovLf⟩
theorem prts_eq {rs : List (List V)} (h : (parseR rs).isSome = true) : rs = (prts rs).map Prt.vs := by
  obtain ⟨l, hl⟩ := Option.isSome_iff_exists.1 h
  unfold prts
  rw [hl]
  exact parseR_eq _ _ hl
theorem list5 {α : Type} {l : List α} (h : l.length = 5) : ∃ a b c d e, l = [a, b, c, d, e] := by
  rcases l with _ | ⟨a, _ | ⟨b, _ | ⟨c, _ | ⟨d, _ | ⟨e, _ | ⟨f, l⟩⟩⟩⟩⟩⟩ <;> simp at h
  exact ⟨_, _, _, _, _, rfl⟩
theorem ov_loop : LoopOK P (loopAt Try.f23 0) ovL := by
  refine loop_ok olG_ok hm (Λ := loopsOf []) (LoopsOK.nil (by kernel_rfl)) ovL ?_
  intro vals bs r h
  change (ovLf vals bs).den = some r at h
  unfold ovLf at h
  split at h
  · rename_i now sch0 sch rs tb
    split at h
    · rename_i own win es hb
      have hb := tabPk_eq hb
      subst hb
      rw [den_lit, den_need] at h
      obtain ⟨hs, ho, h⟩ := h
      simp only [Bool.and_eq_true, decide_eq_true_eq] at hs
      obtain ⟨rfl, rfl⟩ := hs
      simp only [okR, Bool.and_eq_true, Nat.beq_eq, List.all_eq_true] at ho
      obtain ⟨h1, h2, h3, h4⟩ := ho
      have h1 := prts_eq h1
      obtain ⟨⟨p0, e0⟩, ⟨p1, e1⟩, ⟨p2, e2⟩, ⟨p3, e3⟩, ⟨p4, e4⟩, rfl⟩ := list5 h4
      obtain ⟨f, hf⟩ := oB_all own win now (prts rs) p0 p1 p2 p3 p4 e0 e1 e2 e3 e4 h2 h3 (prts rs) 0 [] rfl (by decide) (by decide)
      refine ⟨f, ?_⟩
      rw [← h1] at hf
      refine Eq.trans hf ?_
      rw [← h]
      cases hF : ((prts rs).filter (ovC [(p0, e0), (p1, e1), (p2, e2), (p3, e3), (p4, e4)] win now)).isEmpty with
      | true => rw [List.isEmpty_iff.1 hF]; rfl
      | false => rfl
    · simp [den_fail] at h
  · simp [den_fail] at h
end Go.Proofs.Ytgdalboilghciaa

set_option maxRecDepth 100000
set_option linter.unusedSimpArgs false
set_option linter.unusedVariables false
namespace Go.Proofs.Ytgdalboilghciaa
open Go.Rx
abbrev mfG : List (Nat × Rx.Spec) := [(32, clS2)]
theorem mfG_ok : GammaOK P mfG := .cons cl2_ok (.nil P)
abbrev mV (L : Nat) (k : Int) : List V := [.sl 0 0 0 9 L none, .fn (.func 32) [] [.ptr 1 0 0 0], .ptr 2 0 0 0, .int .i64 k]
abbrev mB (rs : List (List V)) (m : Prt) (own : Ck) (win : Int) (es : TabE) : List Blk := Body.rows pK rs :: Body.cells [.ptr 3 0 0 0] :: Body.cells m.vs :: tabK 3 own win es
noncomputable abbrev mRd (vals : List V) (bs : List Blk) : Tree LRes := evRound P (specsOf mfG) (loopsOf []) 33 [0, 1, 5, 6] [] (loopAt Try.f31 0) vals bs
theorem mr (own : Ck) (win i : Int) (L : Nat) (rs : List (List V)) (m : Prt) (p0 p1 p2 p3 p4 : Prt) (e0 e1 e2 e3 e4 : Ent) : (mRd (mV L i) (mB rs m own win [(p0, e0), (p1, e1), (p2, e2), (p3, e3), (p4, e4)])).den = Tree.den (Tree.ite (decide (i < (↑L : Int))) (Tree.ite (decide (0 ≤ i) && decide (i < (↑L : Int))) (Tree.ite (decide (0 + i.toNat < rs.length)) (Tree.ite (true && (inE { c := { b0 := (V.toInt ((rs.getD (0 + i.toNat) []).getD 0 V.any)), b1 := (V.toInt ((rs.getD (0 + i.toNat) []).getD 1 V.any)), b2 := (V.toInt ((rs.getD (0 + i.toNat) []).getD 2 V.any)), b3 := (V.toInt ((rs.getD (0 + i.toNat) []).getD 3 V.any)), b4 := (V.toInt ((rs.getD (0 + i.toNat) []).getD 4 V.any)), b5 := (V.toInt ((rs.getD (0 + i.toNat) []).getD 5 V.any)), b6 := (V.toInt ((rs.getD (0 + i.toNat) []).getD 6 V.any)), b7 := (V.toInt ((rs.getD (0 + i.toNat) []).getD 7 V.any)) }, n := (V.toInt ((rs.getD (0 + i.toNat) []).getD 8 V.any)) } [(p0, e0), (p1, e1), (p2, e2), (p3, e3), (p4, e4)] && inE m [(p0, e0), (p1, e1), (p2, e2), (p3, e3), (p4, e4)])) (Tree.ite (decide (IntKind.i64.wrap ((lastE { c := { b0 := (V.toInt ((rs.getD (0 + i.toNat) []).getD 0 V.any)), b1 := (V.toInt ((rs.getD (0 + i.toNat) []).getD 1 V.any)), b2 := (V.toInt ((rs.getD (0 + i.toNat) []).getD 2 V.any)), b3 := (V.toInt ((rs.getD (0 + i.toNat) []).getD 3 V.any)), b4 := (V.toInt ((rs.getD (0 + i.toNat) []).getD 4 V.any)), b5 := (V.toInt ((rs.getD (0 + i.toNat) []).getD 5 V.any)), b6 := (V.toInt ((rs.getD (0 + i.toNat) []).getD 6 V.any)), b7 := (V.toInt ((rs.getD (0 + i.toNat) []).getD 7 V.any)) }, n := (V.toInt ((rs.getD (0 + i.toNat) []).getD 8 V.any)) } [(p0, e0), (p1, e1), (p2, e2), (p3, e3), (p4, e4)]).snd.fst - (lastE m [(p0, e0), (p1, e1), (p2, e2), (p3, e3), (p4, e4)]).snd.fst) < 0)) (Tree.ite (decide (0 ≤ i) && decide (i < (↑L : Int))) (Tree.ite (decide (0 + i.toNat < rs.length)) (Tree.leaf { e := Ex.nrm, vs := [V.sl 0 0 0 9 L none, V.fn (Fn.func 32) [] [V.ptr 1 0 0 0], V.ptr 2 0 0 0, V.int IntKind.i64 (IntKind.i64.wrap (i + 1))], upd := [none, none, some (some (Body.cells [V.int IntKind.u8 (V.toInt ((rs.getD (0 + i.toNat) []).getD 0 V.any)), V.int IntKind.u8 (V.toInt ((rs.getD (0 + i.toNat) []).getD 1 V.any)), V.int IntKind.u8 (V.toInt ((rs.getD (0 + i.toNat) []).getD 2 V.any)), V.int IntKind.u8 (V.toInt ((rs.getD (0 + i.toNat) []).getD 3 V.any)), V.int IntKind.u8 (V.toInt ((rs.getD (0 + i.toNat) []).getD 4 V.any)), V.int IntKind.u8 (V.toInt ((rs.getD (0 + i.toNat) []).getD 5 V.any)), V.int IntKind.u8 (V.toInt ((rs.getD (0 + i.toNat) []).getD 6 V.any)), V.int IntKind.u8 (V.toInt ((rs.getD (0 + i.toNat) []).getD 7 V.any)), V.int IntKind.i64 (V.toInt ((rs.getD (0 + i.toNat) []).getD 8 V.any))])), none, none, none, none, none, none, none], new := [] }) Tree.fail) Tree.fail) (Tree.leaf { e := Ex.nrm, vs := [V.sl 0 0 0 9 L none, V.fn (Fn.func 32) [] [V.ptr 1 0 0 0], V.ptr 2 0 0 0, V.int IntKind.i64 (IntKind.i64.wrap (i + 1))], upd := [none, none, none, none, none, none, none, none, none, none], new := [] })) Tree.fail) Tree.fail) Tree.fail) (Tree.leaf { e := Ex.exit 0, vs := [], upd := [none, none, none, none, none, none, none, none, none, none], new := [] })) := by
  kernel_rfl
theorem mr' (own : Ck) (win : Int) (k : Nat) (l : List Prt) (x m : Prt) (p0 p1 p2 p3 p4 : Prt) (e0 e1 e2 e3 e4 : Ent) (hx : l[k]? = some x) (hk : l.length < 1000) (hi : inE x [(p0, e0), (p1, e1), (p2, e2), (p3, e3), (p4, e4)] = true) (hm : inE m [(p0, e0), (p1, e1), (p2, e2), (p3, e3), (p4, e4)] = true) :
    (mRd (mV l.length k) (mB (l.map Prt.vs) m own win [(p0, e0), (p1, e1), (p2, e2), (p3, e3), (p4, e4)])).den = some (match decide (IntKind.i64.wrap ((lastE x [(p0, e0), (p1, e1), (p2, e2), (p3, e3), (p4, e4)]).2.1 - (lastE m [(p0, e0), (p1, e1), (p2, e2), (p3, e3), (p4, e4)]).2.1) < 0) with
      | true => ⟨.nrm, mV l.length (k + 1 : Nat), none :: none :: some (some (.cells x.vs)) :: List.replicate 7 none, []⟩
      | false => ⟨.nrm, mV l.length (k + 1 : Nat), List.replicate 10 none, []⟩) := by
  have st := mr own win k l.length (l.map Prt.vs) m p0 p1 p2 p3 p4 e0 e1 e2 e3 e4
  have hgi : (l.map Prt.vs).getD k [] = x.vs := by
    rw [List.getD_eq_getElem?_getD, List.getElem?_map, hx]; rfl
  have hkl : k < l.length := (List.getElem?_eq_some_iff.1 hx).1
  obtain ⟨⟨x0, x1, x2, x3⟩, x4, x5, x6, x7, x8⟩ := vsp x
  have w1 : IntKind.i64.wrap (((k : Nat) : Int) + 1) = ((k + 1 : Nat) : Int) := by rw [wrap64_id (by omega) (by omega)]; omega
  simp only [hgi, x0, x1, x2, x3, x4, x5, x6, x7, x8, vsx, w1, Int.toNat_natCast, Nat.zero_add, List.length_map] at st
  rw [decide_eq_true (show ((k : Nat) : Int) < (l.length : Int) by omega), decide_eq_true (show (0 : Int) ≤ ((k : Nat) : Int) by omega), decide_eq_true hkl, hi, hm] at st
  refine st.trans ?_
  clear st
  cases decide (IntKind.i64.wrap ((lastE x [(p0, e0), (p1, e1), (p2, e2), (p3, e3), (p4, e4)]).2.1 - (lastE m [(p0, e0), (p1, e1), (p2, e2), (p3, e3), (p4, e4)]).2.1) < 0)
  · kernel_rfl
  · kernel_rfl
/-- Is another one less? -/
def minC (es : TabE) : Prt → List Prt → Bool
  | _, [] => false
  | m, x :: r => match decide (IntKind.i64.wrap ((lastE x es).2.1 - (lastE m es).2.1) < 0) with
    | true => true
    | false => minC es m r
theorem minC_false (es : TabE) : ∀ (m : Prt) (r : List Prt), minC es m r = false → minE es m r = m
  | m, [], h => rfl
  | m, x :: r, h => by
    rw [minC] at h
    rw [minE]
    split at h
    · cases h
    · rename_i e
      rw [e]
      exact minC_false es m r h
def mfR (m : Prt) : Bool → LRes
  | true => ⟨.exit 0, [], none :: none :: some (some (.cells m.vs)) :: List.replicate 7 none, []⟩
  | false => ⟨.exit 0, [], List.replicate 10 none, []⟩
noncomputable abbrev mLN (f : Nat) (vals : List V) (bs : List Blk) : Tree LRes := loopN P (specsOf mfG) (loopsOf []) 33 [0, 1, 5, 6] [] (loopAt Try.f31 0) f vals bs
theorem mf_all (own : Ck) (win : Int) (l : List Prt) (p0 p1 p2 p3 p4 : Prt) (e0 e1 e2 e3 e4 : Ent) (hl : l.length < 1000) (hi : ∀ x ∈ l, inE x [(p0, e0), (p1, e1), (p2, e2), (p3, e3), (p4, e4)] = true) :
    ∀ (rest : List Prt) (k : Nat) (m : Prt), l.drop k = rest → k ≤ l.length → inE m [(p0, e0), (p1, e1), (p2, e2), (p3, e3), (p4, e4)] = true →
    ∃ f, (mLN f (mV l.length k) (mB (l.map Prt.vs) m own win [(p0, e0), (p1, e1), (p2, e2), (p3, e3), (p4, e4)])).den = some (mfR (minE [(p0, e0), (p1, e1), (p2, e2), (p3, e3), (p4, e4)] m rest) (minC [(p0, e0), (p1, e1), (p2, e2), (p3, e3), (p4, e4)] m rest)) := by
  intro rest
  induction rest with
  | nil =>
    intro k m hd hk hm
    have hk5 : k = l.length := by
      have := congrArg List.length hd
      rw [List.length_drop, List.length_nil] at this
      omega
    refine ⟨1, ?_⟩
    have hx := mr own win k l.length (l.map Prt.vs) m p0 p1 p2 p3 p4 e0 e1 e2 e3 e4
    rw [decide_eq_false (show ¬ ((k : Nat) : Int) < (l.length : Int) by omega)] at hx
    exact loopN_end hx (by show Ex.exit 0 ≠ Ex.nrm; decide)
  | cons x rest ih =>
    intro k m hd hk hm
    obtain ⟨hx, hd', hkl⟩ := drop_cons hd
    have hxi := hi x (List.mem_of_getElem? hx)
    have st := mr' own win k l x m p0 p1 p2 p3 p4 e0 e1 e2 e3 e4 hx hl hxi hm
    rw [minE, minC]
    cases hc : decide (IntKind.i64.wrap ((lastE x [(p0, e0), (p1, e1), (p2, e2), (p3, e3), (p4, e4)]).2.1 - (lastE m [(p0, e0), (p1, e1), (p2, e2), (p3, e3), (p4, e4)]).2.1) < 0) with
    | false =>
      rw [hc] at st
      obtain ⟨f, hf⟩ := ih (k + 1) m hd' (by omega) hm
      refine ⟨f + 1, ?_⟩
      refine loopN_step st rfl (vals' := mV l.length (k + 1 : Nat)) (bs' := mB (l.map Prt.vs) m own win [(p0, e0), (p1, e1), (p2, e2), (p3, e3), (p4, e4)]) (by kernel_rfl) (by kernel_rfl) (by kernel_rfl) hf ?_
      show (seqAfter _ _ (mfR (minE [(p0, e0), (p1, e1), (p2, e2), (p3, e3), (p4, e4)] m rest) (minC [(p0, e0), (p1, e1), (p2, e2), (p3, e3), (p4, e4)] m rest))).den = some (mfR (minE [(p0, e0), (p1, e1), (p2, e2), (p3, e3), (p4, e4)] m rest) (minC [(p0, e0), (p1, e1), (p2, e2), (p3, e3), (p4, e4)] m rest))
      generalize minE [(p0, e0), (p1, e1), (p2, e2), (p3, e3), (p4, e4)] m rest = M
      cases minC [(p0, e0), (p1, e1), (p2, e2), (p3, e3), (p4, e4)] m rest
      · (show (seqAfter _ _ _).den = some _; kernel_rfl)
      · (show (seqAfter _ _ _).den = some _; kernel_rfl)
    | true =>
      rw [hc] at st
      obtain ⟨f, hf⟩ := ih (k + 1) x hd' (by omega) hxi
      refine ⟨f + 1, ?_⟩
      refine loopN_step st rfl (vals' := mV l.length (k + 1 : Nat)) (bs' := mB (l.map Prt.vs) x own win [(p0, e0), (p1, e1), (p2, e2), (p3, e3), (p4, e4)]) (by kernel_rfl) (by kernel_rfl) (by kernel_rfl) hf ?_
      show (seqAfter _ _ (mfR (minE [(p0, e0), (p1, e1), (p2, e2), (p3, e3), (p4, e4)] x rest) (minC [(p0, e0), (p1, e1), (p2, e2), (p3, e3), (p4, e4)] x rest))).den = some (mfR (minE [(p0, e0), (p1, e1), (p2, e2), (p3, e3), (p4, e4)] x rest) true)
      cases hcc : minC [(p0, e0), (p1, e1), (p2, e2), (p3, e3), (p4, e4)] x rest with
      | false =>
        rw [minC_false _ _ _ hcc]
        (show (seqAfter _ _ _).den = some _; kernel_rfl)
      | true =>
        generalize minE [(p0, e0), (p1, e1), (p2, e2), (p3, e3), (p4, e4)] x rest = M
        (show (seqAfter _ _ _).den = some _; kernel_rfl)
def okM (L : Nat) (rs : List (List V)) (es : TabE) : Bool := (parseR rs).isSome && (Nat.beq (prts rs).length L && (decide (L < 1000) && ((prts rs).all (fun x => inE x es) && Nat.beq es.length 5)))
def mfLf (vals : List V) (bs : List Blk) : Tree LRes := match vals, bs with
  | [.sl 0 0 0 9 L none, .fn (.func 32) [] [.ptr 1 0 0 0], .ptr 2 0 0 0, .int .i64 1], Body.rows sch rs :: Body.cells [.ptr 3 0 0 0] :: Body.cells mc :: tb => match Prt.p mc, tabPk 3 tb with
    | some (m, []), some (own, win, es) => .lit (decide (sch = pK)) (.need (okM L rs es && (inE m es && decide (1 ≤ L))) (.ite (minC es m (prts rs).tail) (.leaf (mfR (minE es m (prts rs).tail) true)) (.leaf (mfR (minE es m (prts rs).tail) false))))
    | _, _ => .fail
  | _, _ => .fail
abbrev mfL : LSpec := ⟨33, [0, 1, 5, 6], [], mfLf⟩
theorem mf_loop : LoopOK P (loopAt Try.f31 0) mfL := by
  refine loop_ok mfG_ok hm (Λ := loopsOf []) (LoopsOK.nil (by kernel_rfl)) mfL ?_
  intro vals bs r h
  change (mfLf vals bs).den = some r at h
  unfold mfLf at h
  split at h
  · rename_i L sch rs mc tb
    split at h
    · rename_i m own win es hp hb
      have hb := tabPk_eq hb
      have hp := Prt.p_eq hp
      rw [List.append_nil] at hp
      subst hb hp
      rw [den_lit, den_need] at h
      obtain ⟨hs, ho, h⟩ := h
      simp only [decide_eq_true_eq] at hs
      subst hs
      simp only [okM, Bool.and_eq_true, Nat.beq_eq, List.all_eq_true, decide_eq_true_eq] at ho
      obtain ⟨⟨h1, h2, h3, h4, h5⟩, h6, h7⟩ := ho
      have h1 := prts_eq h1
      obtain ⟨⟨p0, e0⟩, ⟨p1, e1⟩, ⟨p2, e2⟩, ⟨p3, e3⟩, ⟨p4, e4⟩, rfl⟩ := list5 h5
      obtain ⟨f, hf⟩ := mf_all own win (prts rs) p0 p1 p2 p3 p4 e0 e1 e2 e3 e4 (by omega) h4 (prts rs).tail 1 m (List.drop_one) (by omega) h6
      refine ⟨f, ?_⟩
      rw [← h1, h2] at hf
      refine Eq.trans hf ?_
      rw [← h]
      cases minC [(p0, e0), (p1, e1), (p2, e2), (p3, e3), (p4, e4)] m (prts rs).tail <;> rfl
    · simp [den_fail] at h
  · simp [den_fail] at h
def minP (es : TabE) (l : List Prt) : Prt := match l with
  | [] => Prt.zero
  | x :: r => minE es x r
def mfS : Rx.Spec := fun a b => match a, b with
  | [.sl 0 0 0 9 L none, .fn (.func 32) [] [.ptr 1 0 0 0]], Body.rows sch rs :: Body.cells [.ptr 2 0 0 0] :: tb => match tabPk 2 tb with
    | some (own, win, es) => .lit (decide (sch = pK)) (.need (okM L rs es && decide (1 ≤ L)) (.leaf ⟨.agg (minP es (prts rs)).vs, noneU (es.length + 2), []⟩))
    | none => .fail
  | _, _ => .fail
theorem mf_nf (own : Ck) (win : Int) (L : Nat) (y : Prt) (rs : List (List V)) (p0 p1 p2 p3 p4 : Prt) (e0 e1 e2 e3 e4 : Ent) : Tree.denN (fFn P (specsOf mfG) (loopsOf [(5, mfL)]) Try.f31 [.sl 0 0 0 9 L none, .fn (.func 32) [] [.ptr 1 0 0 0]] (Body.rows pK (y.vs :: rs) :: Body.cells [.ptr 2 0 0 0] :: tabK 2 own win [(p0, e0), (p1, e1), (p2, e2), (p3, e3), (p4, e4)])) = Tree.denN (.ite (decide ((L : Int) < 1)) .fail (.ite (decide (0 < (L : Int))) (.ite (okM L (y.vs :: rs) [(p0, e0), (p1, e1), (p2, e2), (p3, e3), (p4, e4)] && (inE y [(p0, e0), (p1, e1), (p2, e2), (p3, e3), (p4, e4)] && decide (1 ≤ L))) (.ite (minC [(p0, e0), (p1, e1), (p2, e2), (p3, e3), (p4, e4)] y (prts (y.vs :: rs)).tail) (.leaf ⟨.agg (minE [(p0, e0), (p1, e1), (p2, e2), (p3, e3), (p4, e4)] y (prts (y.vs :: rs)).tail).vs, noneU 7, []⟩) (.leaf ⟨.agg y.vs, noneU 7, []⟩)) .fail) .fail)) := show Tree.denN (fFn P (specsOf mfG) (loopsOf [(5, mfL)]) Try.f31 [.sl 0 0 0 9 L none, .fn (.func 32) [] [.ptr 1 0 0 0]] (Body.rows pK (y.vs :: rs) :: Body.cells [.ptr 2 0 0 0] :: tabK 2 own win [(p0, e0), (p1, e1), (p2, e2), (p3, e3), (p4, e4)])) = Tree.denN (.ite (decide ((L : Int) < 1)) .fail (.ite (decide (0 < (L : Int))) (.ite (okM L (y.vs :: rs) [(p0, e0), (p1, e1), (p2, e2), (p3, e3), (p4, e4)] && (inE y [(p0, e0), (p1, e1), (p2, e2), (p3, e3), (p4, e4)] && decide (1 ≤ L))) (.ite (minC [(p0, e0), (p1, e1), (p2, e2), (p3, e3), (p4, e4)] y (prts (y.vs :: rs)).tail) (.leaf ⟨.agg (minE [(p0, e0), (p1, e1), (p2, e2), (p3, e3), (p4, e4)] y (prts (y.vs :: rs)).tail).vs, noneU 7, []⟩) (.leaf ⟨.agg y.vs, noneU 7, []⟩)) .fail) .fail)) from by kernel_rfl
theorem mf_ok : SpecOK P 31 mfS := by
  refine specOK_fast mfG_ok hm (Λ := loopsOf [(5, mfL)]) Try.func31 (by kernel_rfl) (LoopsOK.one (by kernel_rfl) mf_loop) ?_
  intro args bs r h
  unfold mfS at h
  split at h
  · rename_i L sch rs tb
    split at h
    · rename_i own win es hb
      have hb := tabPk_eq hb
      subst hb
      rw [den_lit, den_need] at h
      obtain ⟨hs, ho, h⟩ := h
      simp only [decide_eq_true_eq] at hs
      subst hs
      have ho' := ho
      simp only [okM, Bool.and_eq_true, Nat.beq_eq, List.all_eq_true, decide_eq_true_eq] at ho
      obtain ⟨⟨h1, h2, h3, h4, h5⟩, h6⟩ := ho
      have h1 := prts_eq h1
      obtain ⟨⟨p0, e0⟩, ⟨p1, e1⟩, ⟨p2, e2⟩, ⟨p3, e3⟩, ⟨p4, e4⟩, rfl⟩ := list5 h5
      obtain ⟨y, l, hl⟩ : ∃ y l, prts rs = y :: l := by
        cases hp : prts rs with
        | nil => rw [hp, List.length_nil] at h2; omega
        | cons y l => exact ⟨y, l, rfl⟩
      have hy := h4 y (by rw [hl]; exact List.mem_cons_self)
      have h := denN_of h
      rw [hl] at h h1
      rw [List.map_cons] at h1
      rw [h1] at ho'
      have e := mf_nf own win L y (l.map Prt.vs) p0 p1 p2 p3 p4 e0 e1 e2 e3 e4
      have hpr : prts (y.vs :: l.map Prt.vs) = y :: l := by rw [← h1]; exact hl
      rw [Bool.and_eq_true] at ho'
      rw [decide_eq_false (show ¬ ((L : Int) < 1) by omega), decide_eq_true (show (0 : Int) < (L : Int) by omega), ho'.1, hy, decide_eq_true (show 1 ≤ L from h6), hpr, List.tail_cons] at e
      rw [h1]
      refine e.trans (Eq.trans ?_ h)
      cases hc : minC [(p0, e0), (p1, e1), (p2, e2), (p3, e3), (p4, e4)] y l with
      | true => rfl
      | false =>
        have := minC_false _ _ _ hc
        show _ = Tree.denN (.leaf ⟨.agg (minE [(p0, e0), (p1, e1), (p2, e2), (p3, e3), (p4, e4)] y l).vs, _, _⟩)
        rw [this]
        rfl
    · simp [den_fail] at h
  · simp [den_fail] at h
abbrev ovG (srt : List Prt → List Prt) : List (Nat × Rx.Spec) := [(24, seS srt), (31, mfS)]
theorem ov_nf (srt : List Prt → List Prt) (own : Ck) (win now : Int) (p0 p1 p2 p3 p4 : Prt) (e0 e1 e2 e3 e4 : Ent) : Tree.denN (fFn P (specsOf (ovG srt)) (loopsOf [(3, ovL)]) Try.f23 [.ptr 0 0 0 0, .int .i64 now] (tabB own win [(p0, e0), (p1, e1), (p2, e2), (p3, e3), (p4, e4)])) = Tree.denN (.ite (okR 5 ((srt [p0, p1, p2, p3, p4]).map Prt.vs) [(p0, e0), (p1, e1), (p2, e2), (p3, e3), (p4, e4)]) (.ite ((prts ((srt [p0, p1, p2, p3, p4]).map Prt.vs)).filter (ovC [(p0, e0), (p1, e1), (p2, e2), (p3, e3), (p4, e4)] win now)).isEmpty (.leaf ⟨.tup [.agg Prt.zero.vs, .fls], noneU 5, []⟩) (.ite ((((prts ((srt [p0, p1, p2, p3, p4]).map Prt.vs)).filter (ovC [(p0, e0), (p1, e1), (p2, e2), (p3, e3), (p4, e4)] win now)).length : Int) == 0) (.leaf ⟨.tup [.agg Prt.zero.vs, .fls], noneU 5, []⟩) (.ite (okM ((prts ((srt [p0, p1, p2, p3, p4]).map Prt.vs)).filter (ovC [(p0, e0), (p1, e1), (p2, e2), (p3, e3), (p4, e4)] win now)).length (((prts ((srt [p0, p1, p2, p3, p4]).map Prt.vs)).filter (ovC [(p0, e0), (p1, e1), (p2, e2), (p3, e3), (p4, e4)] win now)).map Prt.vs) [(p0, e0), (p1, e1), (p2, e2), (p3, e3), (p4, e4)] && decide (1 ≤ ((prts ((srt [p0, p1, p2, p3, p4]).map Prt.vs)).filter (ovC [(p0, e0), (p1, e1), (p2, e2), (p3, e3), (p4, e4)] win now)).length)) (.leaf ⟨.tup [.agg (minP [(p0, e0), (p1, e1), (p2, e2), (p3, e3), (p4, e4)] (prts (((prts ((srt [p0, p1, p2, p3, p4]).map Prt.vs)).filter (ovC [(p0, e0), (p1, e1), (p2, e2), (p3, e3), (p4, e4)] win now)).map Prt.vs))).vs, .tru], noneU 5, []⟩) .fail))) .fail) := show Tree.denN (fFn P (specsOf (ovG srt)) (loopsOf [(3, ovL)]) Try.f23 [.ptr 0 0 0 0, .int .i64 now] (tabB own win [(p0, e0), (p1, e1), (p2, e2), (p3, e3), (p4, e4)])) = Tree.denN (.ite (okR 5 ((srt [p0, p1, p2, p3, p4]).map Prt.vs) [(p0, e0), (p1, e1), (p2, e2), (p3, e3), (p4, e4)]) (.ite ((prts ((srt [p0, p1, p2, p3, p4]).map Prt.vs)).filter (ovC [(p0, e0), (p1, e1), (p2, e2), (p3, e3), (p4, e4)] win now)).isEmpty (.leaf ⟨.tup [.agg Prt.zero.vs, .fls], noneU 5, []⟩) (.ite ((((prts ((srt [p0, p1, p2, p3, p4]).map Prt.vs)).filter (ovC [(p0, e0), (p1, e1), (p2, e2), (p3, e3), (p4, e4)] win now)).length : Int) == 0) (.leaf ⟨.tup [.agg Prt.zero.vs, .fls], noneU 5, []⟩) (.ite (okM ((prts ((srt [p0, p1, p2, p3, p4]).map Prt.vs)).filter (ovC [(p0, e0), (p1, e1), (p2, e2), (p3, e3), (p4, e4)] win now)).length (((prts ((srt [p0, p1, p2, p3, p4]).map Prt.vs)).filter (ovC [(p0, e0), (p1, e1), (p2, e2), (p3, e3), (p4, e4)] win now)).map Prt.vs) [(p0, e0), (p1, e1), (p2, e2), (p3, e3), (p4, e4)] && decide (1 ≤ ((prts ((srt [p0, p1, p2, p3, p4]).map Prt.vs)).filter (ovC [(p0, e0), (p1, e1), (p2, e2), (p3, e3), (p4, e4)] win now)).length)) (.leaf ⟨.tup [.agg (minP [(p0, e0), (p1, e1), (p2, e2), (p3, e3), (p4, e4)] (prts (((prts ((srt [p0, p1, p2, p3, p4]).map Prt.vs)).filter (ovC [(p0, e0), (p1, e1), (p2, e2), (p3, e3), (p4, e4)] win now)).map Prt.vs))).vs, .tru], noneU 5, []⟩) .fail))) .fail) from by kernel_rfl
theorem prts_map (l : List Prt) : prts (l.map Prt.vs) = l := by
  unfold prts
  rw [parseR_map]
  rfl
theorem inE_mem {p : Prt} : ∀ {es : TabE}, p ∈ es.map (·.1) → inE p es = true
  | [], h => by simp at h
  | e :: r, h => by
    rw [inE]
    split
    · rfl
    · rename_i hf
      rw [List.map_cons, List.mem_cons] at h
      rcases h with rfl | h
      · rw [Prt.eqB_self] at hf; cases hf
      · exact inE_mem h
theorem ov_ok {srt : List Prt → List Prt} (hsrt : ∀ l, srt l = isoL l) : SpecOK P 23 (ovS srt) := by
  refine specOK_fast (.cons (se_ok hsrt) (.cons mf_ok (.nil P)) : GammaOK P (ovG srt)) hm (Λ := loopsOf [(3, ovL)]) Try.func23 (by kernel_rfl) (LoopsOK.one (by kernel_rfl) ov_loop) ?_
  intro args bs r h
  unfold ovS at h
  split at h
  · rename_i now own win es hb
    have hb := tabP_eq hb
    subst hb
    rw [den_lit, Nat.beq_eq] at h
    obtain ⟨hl, h⟩ := h
    have h := denN_of h
    rw [← h]
    obtain ⟨⟨p0, e0⟩, ⟨p1, e1⟩, ⟨p2, e2⟩, ⟨p3, e3⟩, ⟨p4, e4⟩, rfl⟩ := list5 hl
    have hp : (srt [p0, p1, p2, p3, p4]).Perm [p0, p1, p2, p3, p4] := by rw [hsrt]; exact isoL_perm _
    have hin : ∀ x ∈ srt [p0, p1, p2, p3, p4], inE x [(p0, e0), (p1, e1), (p2, e2), (p3, e3), (p4, e4)] = true := fun x hx => inE_mem (by simpa using hp.mem_iff.1 hx)
    have ho : okR 5 ((srt [p0, p1, p2, p3, p4]).map Prt.vs) [(p0, e0), (p1, e1), (p2, e2), (p3, e3), (p4, e4)] = true := by
      unfold okR
      rw [parseR_map, prts_map, hp.length_eq]
      simp only [Option.isSome_some, List.length_cons, List.length_nil, Bool.true_and, Bool.and_eq_true, List.all_eq_true]
      exact ⟨rfl, hin, rfl⟩
    refine (ov_nf srt own win now p0 p1 p2 p3 p4 e0 e1 e2 e3 e4).trans ?_
    rw [ho, prts_map]
    have hO : overL srt [(p0, e0), (p1, e1), (p2, e2), (p3, e3), (p4, e4)] win now = (srt [p0, p1, p2, p3, p4]).filter (ovC [(p0, e0), (p1, e1), (p2, e2), (p3, e3), (p4, e4)] win now) := rfl
    show _ = Tree.denN (.leaf ⟨.tup [.agg (ovP srt [(p0, e0), (p1, e1), (p2, e2), (p3, e3), (p4, e4)] win now).vs, .bool (ovB srt [(p0, e0), (p1, e1), (p2, e2), (p3, e3), (p4, e4)] win now)], _, _⟩)
    unfold ovP ovB
    rw [hO]
    have hinF : ∀ x ∈ (srt [p0, p1, p2, p3, p4]).filter (ovC [(p0, e0), (p1, e1), (p2, e2), (p3, e3), (p4, e4)] win now), inE x [(p0, e0), (p1, e1), (p2, e2), (p3, e3), (p4, e4)] = true := fun x hx => hin x (List.mem_filter.1 hx).1
    have hlF : ((srt [p0, p1, p2, p3, p4]).filter (ovC [(p0, e0), (p1, e1), (p2, e2), (p3, e3), (p4, e4)] win now)).length ≤ 5 := Nat.le_trans (List.length_filter_le _ _) (by rw [hp.length_eq]; exact Nat.le_refl 5)
    generalize (srt [p0, p1, p2, p3, p4]).filter (ovC [(p0, e0), (p1, e1), (p2, e2), (p3, e3), (p4, e4)] win now) = F at hinF hlF
    cases F with
    | nil => rfl
    | cons y l =>
      have h2 : okM (y :: l).length ((y :: l).map Prt.vs) [(p0, e0), (p1, e1), (p2, e2), (p3, e3), (p4, e4)] = true := by
        unfold okM
        rw [parseR_map, prts_map]
        simp only [Option.isSome_some, Bool.true_and, Bool.and_eq_true, List.all_eq_true, Nat.beq_eq, decide_eq_true_eq]
        exact ⟨trivial, by omega, hinF, rfl⟩
      rw [h2, prts_map, decide_eq_true (show 1 ≤ (y :: l).length by simp), show (((y :: l).length : Int) == 0) = false by rw [beq_eq_false_iff_ne]; simp; omega]
      rfl
  · simp [den_fail] at h
end Go.Proofs.Ytgdalboilghciaa

set_option maxRecDepth 100000
set_option linter.unusedSimpArgs false
set_option linter.unusedVariables false
namespace Go.Proofs.Ytgdalboilghciaa
open Go.Rx
def inW (now win t : Int) : Bool := match decide (t ≤ now) with
  | true => decide (t > IntKind.i64.wrap (now - win))
  | false => false
def b2i (b : Bool) : Int := match b with | true => 1 | false => 0
def cntE (e : Ent) (len : Nat) (now win : Int) : Int := match len with
  | 0 => 0
  | 1 => b2i (inW now win e.t0)
  | _ => b2i (inW now win e.t0) + b2i (inW now win e.t1)
abbrev qiV (now c : Int) (len : Nat) (i : Int) : List V := [.ptr 0 0 0 0, .int .i64 now, .int .i64 c, .sl 1 0 32 1 len none, .int .i64 (len : Int), .int .i64 i]
abbrev qiB (own : Ck) (win : Int) (e : Ent) : List Blk := [Body.cells (own.vs ++ [.int .i64 win, .any]), Body.cells e.vs]
noncomputable abbrev qiRd (vals : List V) (bs : List Blk) : Tree LRes := evRound P (specsOf []) (loopsOf []) 65 [0, 1, 9, 32, 33, 34] [9] (loopAt Try.f12 1) vals bs
noncomputable abbrev qiL (f : Nat) (vals : List V) (bs : List Blk) : Tree LRes := loopN P (specsOf []) (loopsOf []) 65 [0, 1, 9, 32, 33, 34] [9] (loopAt Try.f12 1) f vals bs
theorem q0 (own : Ck) (win now : Int) (e : Ent) : (qiL 3 (qiV now 0 0 0) (qiB own win e)).den = Tree.den (Tree.leaf { e := Ex.exit 2, vs := [V.int IntKind.i64 0], upd := [none, none], new := [] }) := by
  kernel_rfl
theorem q1 (own : Ck) (win now : Int) (e : Ent) : (qiL 3 (qiV now 0 1 0) (qiB own win e)).den = Tree.den (Tree.ite (decide (e.t0 ≤ now)) (Tree.ite (decide (e.t0 > IntKind.i64.wrap (now - win))) (Tree.leaf { e := Ex.exit 2, vs := [V.int IntKind.i64 1], upd := [none, none], new := [] }) (Tree.leaf { e := Ex.exit 2, vs := [V.int IntKind.i64 0], upd := [none, none], new := [] })) (Tree.leaf { e := Ex.exit 2, vs := [V.int IntKind.i64 0], upd := [none, none], new := [] })) := by
  kernel_rfl
theorem q2 (own : Ck) (win now : Int) (e : Ent) : (qiL 3 (qiV now 0 2 0) (qiB own win e)).den = Tree.den (Tree.ite (decide (e.t0 ≤ now)) (Tree.ite (decide (e.t0 > IntKind.i64.wrap (now - win))) (Tree.ite (decide (e.t1 ≤ now)) (Tree.ite (decide (e.t1 > IntKind.i64.wrap (now - win))) (Tree.leaf { e := Ex.exit 2, vs := [V.int IntKind.i64 2], upd := [none, none], new := [] }) (Tree.leaf { e := Ex.exit 2, vs := [V.int IntKind.i64 1], upd := [none, none], new := [] })) (Tree.leaf { e := Ex.exit 2, vs := [V.int IntKind.i64 1], upd := [none, none], new := [] })) (Tree.ite (decide (e.t1 ≤ now)) (Tree.ite (decide (e.t1 > IntKind.i64.wrap (now - win))) (Tree.leaf { e := Ex.exit 2, vs := [V.int IntKind.i64 1], upd := [none, none], new := [] }) (Tree.leaf { e := Ex.exit 2, vs := [V.int IntKind.i64 0], upd := [none, none], new := [] })) (Tree.leaf { e := Ex.exit 2, vs := [V.int IntKind.i64 0], upd := [none, none], new := [] }))) (Tree.ite (decide (e.t1 ≤ now)) (Tree.ite (decide (e.t1 > IntKind.i64.wrap (now - win))) (Tree.leaf { e := Ex.exit 2, vs := [V.int IntKind.i64 1], upd := [none, none], new := [] }) (Tree.leaf { e := Ex.exit 2, vs := [V.int IntKind.i64 0], upd := [none, none], new := [] })) (Tree.leaf { e := Ex.exit 2, vs := [V.int IntKind.i64 0], upd := [none, none], new := [] }))) := by
  kernel_rfl
theorem q_all (own : Ck) (win now : Int) (e : Ent) (len : Nat) (h : len ≤ 2) : (qiL 3 (qiV now 0 len 0) (qiB own win e)).den = some ⟨.exit 2, [.int .i64 (cntE e len now win)], [none, none], []⟩ := by
  obtain rfl | rfl | rfl : len = 0 ∨ len = 1 ∨ len = 2 := by omega
  · exact q0 own win now e
  · refine (q1 own win now e).trans ?_
    show _ = some (⟨.exit 2, [.int .i64 (b2i (inW now win e.t0))], _, _⟩ : LRes)
    unfold inW
    cases decide (e.t0 ≤ now)
    · rfl
    · cases decide (e.t0 > IntKind.i64.wrap (now - win)) <;> rfl
  · refine (q2 own win now e).trans ?_
    show _ = some (⟨.exit 2, [.int .i64 (b2i (inW now win e.t0) + b2i (inW now win e.t1))], _, _⟩ : LRes)
    unfold inW
    show (Tree.ite (decide (e.t0 ≤ now)) _ _ : Tree LRes).den = _
    cases decide (e.t0 ≤ now)
    · cases decide (e.t1 ≤ now)
      · kernel_rfl
      · cases decide (e.t1 > IntKind.i64.wrap (now - win)) <;> kernel_rfl
    · cases decide (e.t0 > IntKind.i64.wrap (now - win))
      · cases decide (e.t1 ≤ now)
        · kernel_rfl
        · cases decide (e.t1 > IntKind.i64.wrap (now - win)) <;> kernel_rfl
      · cases decide (e.t1 ≤ now)
        · kernel_rfl
        · cases decide (e.t1 > IntKind.i64.wrap (now - win)) <;> kernel_rfl
/-- The first two blocks alone. -/
def twoR (ρ : Rho) : Rho := fun b => if b < 2 then ρ b else none
theorem twoR_le (ρ : Rho) : Le (twoR ρ) ρ := fun b s h => by
  unfold twoR at h
  split at h
  · exact h
  · cases h
def isInt : V → Bool
  | .int _ _ => true
  | _ => false
theorem int_rel {ρ ρ' : Rho} {v : V} {x : Value} (h : isInt v = true) (r : VRel ρ v x) : VRel ρ' v x := by
  cases v with
  | int k n => simpa only [VRel] using r
  | _ => cases h
theorem Ent.ints (e : Ent) : e.vs.all isInt = true := rfl
theorem Ck.ints (own : Ck) (win : Int) : (own.vs ++ [V.int .i64 win]).all isInt = true := rfl
def qInF (vals : List V) (bs : List Blk) : Tree LRes := match vals, bs with
  | [.ptr 0 0 0 0, .int .i64 now, .int .i64 0, .sl 1 0 32 1 len none, .int .i64 n, .int .i64 0], Body.cells tc :: Body.cells ec :: rest => match Ck.p tc, Ent.of ec with
    | some (own, [.int .i64 win, .mapr _]), some e => .need (decide (len ≤ 2) && decide (n = (len : Int))) (.leaf ⟨.exit 2, [.int .i64 (cntE e len now win)], none :: none :: List.replicate rest.length none, []⟩)
    | _, _ => .fail
  | _, _ => .fail
abbrev qInL : LSpec := ⟨65, [0, 1, 9, 32, 33, 34], [9], qInF⟩
def qSmF (vals : List V) (bs : List Blk) : Tree LRes := match vals, bs with
  | [.ptr 0 0 0 0, .int .i64 now, .int .i64 0, .sl 1 0 32 1 len none, .int .i64 n, .int .i64 0], [Body.cells tc, Body.cells ec] => match Ck.p tc, Ent.of ec with
    | some (own, [.int .i64 win, .any]), some e => .need (decide (len ≤ 2) && decide (n = (len : Int))) (.leaf ⟨.exit 2, [.int .i64 (cntE e len now win)], [none, none], []⟩)
    | _, _ => .fail
  | _, _ => .fail
abbrev qSmL : LSpec := ⟨65, [0, 1, 9, 32, 33, 34], [9], qSmF⟩
theorem qSm_loop : LoopOK P (loopAt Try.f12 1) qSmL := by
  refine loop_ok (GammaOK.nil P) hm (Λ := loopsOf []) (LoopsOK.nil (by kernel_rfl)) qSmL ?_
  intro vals bs r h
  change (qSmF vals bs).den = some r at h
  unfold qSmF at h
  split at h
  · split at h
    · rename_i hp he
      have hp := Ck.p_eq hp
      have he := Ent.of_eq he
      subst hp he
      rw [den_need] at h
      obtain ⟨hn, h⟩ := h
      simp only [Bool.and_eq_true, decide_eq_true_eq] at hn
      obtain ⟨h1, rfl⟩ := hn
      exact ⟨3, (q_all _ _ _ _ _ h1).trans h⟩
    · simp [den_fail] at h
  · simp [den_fail] at h
theorem no_upd {n : Nat} {b : Nat} {x : Option Blk} (h : (none :: none :: List.replicate n (none : Option (Option Blk)))[b]? = some (some x)) : False := by
  rw [show (none :: none :: List.replicate n (none : Option (Option Blk))) = List.replicate (n + 2) none from rfl, List.getElem?_replicate] at h
  split at h <;> simp at h
theorem qIn_loop : LoopOK P (loopAt Try.f12 1) qInL := by
  intro vals bs r h ρ a w hd hsz hv hbs
  change (qInF vals bs).den = some r at h
  unfold qInF at h
  split at h
  · rename_i now len n tc ec rest
    split at h
    · rename_i own win kb e hp he
      have hp := Ck.p_eq hp
      have he := Ent.of_eq he
      subst hp he
      rw [den_need] at h
      obtain ⟨hn, h⟩ := h
      rw [denLf] at h
      cases h
      have hr : (qSmF (qiV now 0 len 0 |>.set 4 (.int .i64 n)) (qiB own win e)).den = some ⟨.exit 2, [.int .i64 (cntE e len now win)], [none, none], []⟩ := by
        show (Tree.need (decide (len ≤ 2) && decide (n = (len : Int))) _).den = _
        rw [hn]
        rfl
      obtain ⟨s0, r0, b0⟩ := hbs.1 0 _ rfl
      obtain ⟨s1, r1, b1⟩ := hbs.1 1 _ rfl
      have t0 : twoR ρ 0 = some s0 := r0
      have t1 : twoR ρ 1 = some s1 := r1
      have hv' : VsRel (twoR ρ) (qiV now 0 len 0 |>.set 4 (.int .i64 n)) ([0, 1, 9, 32, 33, 34].map fun t => a.tmps.getD t undef) := by
        obtain ⟨y0, l0, e0, h0, y1, l1, e1, h1, y2, l2, e2, h2, y3, l3, e3, h3, y4, l4, e4, h4, y5, l5, e5, h5, e6⟩ := hv
        refine ⟨y0, l0, e0, ?_, y1, l1, e1, ?_, y2, l2, e2, ?_, y3, l3, e3, ?_, y4, l4, e4, ?_, y5, l5, e5, ?_, e6⟩
        · simp only [VRel] at h0 ⊢
          obtain ⟨s, hs, h0⟩ := h0
          rw [r0] at hs; cases hs
          exact ⟨s0, t0, h0⟩
        · simpa only [VRel] using h1
        · simpa only [VRel] using h2
        · simp only [VRel] at h3 ⊢
          obtain ⟨s, a, c, hs, h3⟩ := h3
          rw [r1] at hs; cases hs
          exact ⟨s1, a, c, t1, h3⟩
        · simpa only [VRel] using h4
        · simpa only [VRel] using h5
      have hb' : BsRel (twoR ρ) (qiB own win e) w := by
        refine ⟨?_, ?_, ?_, ?_⟩
        · intro b bl hb
          rcases b with _ | _ | b
          · cases hb
            refine ⟨s0, t0, by simpa [flat] using b0.1, fun h0 => ?_⟩
            obtain ⟨arr, en, fr, q1, q2, q3, q4⟩ := MRel.cells rfl (b0.2 h0)
            refine MRel.of rfl ⟨arr, en, fr, q1, q2, q3, fun i v hi => ?_⟩
            have hi : ((own.vs ++ [V.int .i64 win]) ++ [V.any])[i]? = some v := hi
            have q4 : ∀ (i : Nat) (v : V), ((own.vs ++ [V.int .i64 win]) ++ [V.mapr kb])[i]? = some v → ∃ x, arr[s0.base + i]? = some x ∧ VRel ρ v x := q4
            rcases Nat.lt_or_ge i (own.vs ++ [V.int .i64 win]).length with hl | hl
            · rw [List.getElem?_append_left hl] at hi
              obtain ⟨x, hx, hr⟩ := q4 i v (by rw [List.getElem?_append_left hl]; exact hi)
              exact ⟨x, hx, int_rel (List.all_eq_true.1 (Ck.ints own win) v (List.mem_of_getElem? hi)) hr⟩
            · rw [List.getElem?_append_right hl] at hi
              have h9 : i = 9 := by
                have h9 : (own.vs ++ [V.int .i64 win]).length = 9 := rfl
                rw [h9] at hi hl
                rcases Nat.lt_or_ge (i - 9) 1 with h | h
                · omega
                · rw [List.getElem?_eq_none (by simpa using h)] at hi; cases hi
              subst h9
              cases hi
              obtain ⟨x, hx, _⟩ := q4 9 (.mapr kb) rfl
              exact ⟨x, hx, by simp [VRel]⟩
          · cases hb
            refine ⟨s1, t1, b1.1, fun h0 => ?_⟩
            obtain ⟨arr, en, fr, q1, q2, q3, q4⟩ := MRel.cells rfl (b1.2 h0)
            refine MRel.of rfl ⟨arr, en, fr, q1, q2, q3, fun i v hi => ?_⟩
            obtain ⟨x, hx, hr⟩ := q4 i v hi
            exact ⟨x, hx, int_rel (List.all_eq_true.1 (Ent.ints e) v (List.mem_of_getElem? hi)) hr⟩
          · cases hb
        · intro b c s t hb hc _ h1 h2 h3
          exact hbs.2.1 b c s t (twoR_le ρ _ _ hb) (twoR_le ρ _ _ hc) (by
            unfold twoR at hb
            split at hb
            · rename_i hlt
              obtain rfl | rfl : b = 0 ∨ b = 1 := by omega
              · rfl
              · rfl
            · cases hb) h1 h2 h3
        · intro b hb
          unfold twoR
          rw [if_neg (by simp at hb; omega)]
        · exact ⟨hbs.2.2.2.size, hbs.2.2.2.holds, fun b s hb => hbs.2.2.2.apart b s (twoR_le ρ _ _ hb)⟩
      refine wp_mono (qSm_loop _ _ _ hr (twoR ρ) a w hd hsz hv' hb') ?_
      rintro ex a' w' ⟨rfl, ρ', hp⟩
      refine ⟨rfl, ρ, ⟨Le.refl _, ?_, ?_, ?_, ?_, ?_, ?_, ?_⟩, hp.keep, hp.size, hp.defers⟩
      · intro b s hb
        rcases Nat.lt_or_ge b (Body.cells (own.vs ++ [V.int IntKind.i64 win, V.mapr kb]) :: Body.cells e.vs :: rest).length with h | h
        · simpa using h
        · rw [hbs.2.2.1 b h] at hb; cases hb
      · have := hp.post.val
        simp only [VRel] at this ⊢
        obtain ⟨xs, hx, y, l, e1, hy, e2⟩ := this
        exact ⟨xs, hx, y, l, e1, by simpa only [VRel] using hy, e2⟩
      · intro b x hx
        exact (no_upd hx).elim
      · intro j bl hj
        cases hj
      · have f := hp.post.fr
        exact ⟨f.os, f.tape, f.output, f.size, fun i hi _ => f.block i hi fun b s hb => by
          obtain ⟨x, hx⟩ := hb
          exact (no_upd (n := 0) hx).elim⟩
      · intro j s hj
        rw [hbs.2.2.1 _ (by omega)] at hj
        cases hj
      · intro i j s t hi
        rw [hbs.2.2.1 _ (by omega)] at hi
        cases hi
    · simp [den_fail] at h
  · simp [den_fail] at h
end Go.Proofs.Ytgdalboilghciaa
