/- Layer 8: a table that stands as the document's. The conditions stand in the specifications. -/
import Derived.Test.YtgdalboilghciaaAlG
import Derived.Test.YtgdalboilghciaaFoG
set_option linter.unusedSimpArgs false
set_option linter.unusedVariables false
set_option linter.unnecessarySimpa false
set_option linter.unusedSectionVars false
set_option maxRecDepth 100000
set_option linter.unusedSimpArgs false
set_option linter.unusedVariables false
namespace Go.Proofs.Ytgdalboilghciaa
open Go.Rx
def stB (own : Ck) (win : Int) (es : TabE) (rs : RTab) : List Blk := match rs with
  | [] => [tabC 1 own win, Body.kv [] []]
  | r :: l => tabC 2 own win :: Body.cells (rowsI (idsF 3 (r :: l))) :: Body.kv (es.map fun x => x.1.v) (ptrsF (3 + (r :: l).length) es.length) :: (tsB (r :: l) ++ es.map fun x => Body.cells x.2.vs)
def stV (own : Ck) (ev : Int) (rs : RTab) : V := .agg (own.vs ++ [.int .i64 ev, outL 1 (idsF 3 rs)])
abbrev stG (srt : List Prt → List Prt) : List (Nat × Rx.Spec) := [(24, seS srt), (20, laS), (13, leS), (30, rlS)]
noncomputable abbrev stLs (srt : List Prt → List Prt) : LSpec := fUnroll P (specsOf (stG srt)) (loopsOf []) Try.f17 (loopAt Try.f17 0) 6
noncomputable abbrev stF (srt : List Prt → List Prt) (a : List V) (b : List Blk) : Tree Res := fFn P (specsOf (stG srt)) (loopsOf [(5, stLs srt)]) Try.f17 a b
theorem stG_ok {srt : List Prt → List Prt} (hsrt : ∀ l, srt l = isoL l) : GammaOK P (stG srt) := .cons (se_ok hsrt) (.cons la_ok (.cons le_ok (.cons rl_ok (.nil P))))
theorem st_fn {srt : List Prt → List Prt} (hsrt : ∀ l, srt l = isoL l) : SpecOK P 17 (stF srt) := inl_ok (stG_ok hsrt) hm Try.func17 (by kernel_rfl) (LoopsOK.one (by kernel_rfl) (fUnroll_ok (stG_ok hsrt) hm (Λ := loopsOf []) (LoopsOK.nil (by kernel_rfl)) _ _))
def rowP (r : List V) : Prt := ⟨⟨(V.toInt (r.getD 0 V.any)), (V.toInt (r.getD 1 V.any)), (V.toInt (r.getD 2 V.any)), (V.toInt (r.getD 3 V.any)), (V.toInt (r.getD 4 V.any)), (V.toInt (r.getD 5 V.any)), (V.toInt (r.getD 6 V.any)), (V.toInt (r.getD 7 V.any))⟩, (V.toInt (r.getD 8 V.any))⟩
theorem rowP_vs (p : Prt) : rowP p.vs = p := rfl
def stT (bs : List Blk) (rows : List (List V)) (es : TabE) : RTab → Nat → Tree Res
  | [], _ => .leaf ⟨.tru, noneL bs, []⟩
  | r :: l, i => .ite (decide (0 + i < rows.length)) (.ite (!((rowP (rows.getD (0 + i) [])).eqB r.s.snd)) (.leaf ⟨.fls, noneL bs, []⟩) (.ite (!(lastE r.s.snd es).2.2) (.leaf ⟨.fls, noneL bs, []⟩)
      (.ite (!((lastE r.s.snd es).1.eqB r.s)) (.leaf ⟨.fls, noneL bs, []⟩) (.need (okE r.len r.ts) (.ite ((lastE r.s.snd es).2.1 != lastT r.ts) (.leaf ⟨.fls, noneL bs, []⟩) (stT bs rows es l (i + 1))))))) .fail
theorem st_0 (srt : List Prt → List Prt) (own ow : Ck) (win ev : Int)  : Tree.denN (stF srt [.ptr 0 0 0 0, stV ow ev []] (stB own win [] [])) = Tree.denN (stT (stB own win [] []) [] [] [] 0) := by
  kernel_rfl
theorem st_1 (srt : List Prt → List Prt) (own ow : Ck) (win ev : Int) (p0 : Prt) (e0 : Ent) (a0 : RefE) : Tree.denN (stF srt [.ptr 0 0 0 0, stV ow ev [a0]] (stB own win [(p0, e0)] [a0])) = Tree.denN (stT (stB own win [(p0, e0)] [a0]) ((srt [p0]).map Prt.vs) [(p0, e0)] [a0] 0) := by
  kernel_rfl
theorem st_2 (srt : List Prt → List Prt) (own ow : Ck) (win ev : Int) (p0 p1 : Prt) (e0 e1 : Ent) (a0 a1 : RefE) : Tree.denN (stF srt [.ptr 0 0 0 0, stV ow ev [a0, a1]] (stB own win [(p0, e0), (p1, e1)] [a0, a1])) = Tree.denN (stT (stB own win [(p0, e0), (p1, e1)] [a0, a1]) ((srt [p0, p1]).map Prt.vs) [(p0, e0), (p1, e1)] [a0, a1] 0) := by
  kernel_rfl
theorem st_3 (srt : List Prt → List Prt) (own ow : Ck) (win ev : Int) (p0 p1 p2 : Prt) (e0 e1 e2 : Ent) (a0 a1 a2 : RefE) : Tree.denN (stF srt [.ptr 0 0 0 0, stV ow ev [a0, a1, a2]] (stB own win [(p0, e0), (p1, e1), (p2, e2)] [a0, a1, a2])) = Tree.denN (stT (stB own win [(p0, e0), (p1, e1), (p2, e2)] [a0, a1, a2]) ((srt [p0, p1, p2]).map Prt.vs) [(p0, e0), (p1, e1), (p2, e2)] [a0, a1, a2] 0) := by
  kernel_rfl
theorem st_4 (srt : List Prt → List Prt) (own ow : Ck) (win ev : Int) (p0 p1 p2 p3 : Prt) (e0 e1 e2 e3 : Ent) (a0 a1 a2 a3 : RefE) : Tree.denN (stF srt [.ptr 0 0 0 0, stV ow ev [a0, a1, a2, a3]] (stB own win [(p0, e0), (p1, e1), (p2, e2), (p3, e3)] [a0, a1, a2, a3])) = Tree.denN (stT (stB own win [(p0, e0), (p1, e1), (p2, e2), (p3, e3)] [a0, a1, a2, a3]) ((srt [p0, p1, p2, p3]).map Prt.vs) [(p0, e0), (p1, e1), (p2, e2), (p3, e3)] [a0, a1, a2, a3] 0) := by
  kernel_rfl
theorem st_5 (srt : List Prt → List Prt) (own ow : Ck) (win ev : Int) (p0 p1 p2 p3 p4 : Prt) (e0 e1 e2 e3 e4 : Ent) (a0 a1 a2 a3 a4 : RefE) : Tree.denN (stF srt [.ptr 0 0 0 0, stV ow ev [a0, a1, a2, a3, a4]] (stB own win [(p0, e0), (p1, e1), (p2, e2), (p3, e3), (p4, e4)] [a0, a1, a2, a3, a4])) = Tree.denN (stT (stB own win [(p0, e0), (p1, e1), (p2, e2), (p3, e3), (p4, e4)] [a0, a1, a2, a3, a4]) ((srt [p0, p1, p2, p3, p4]).map Prt.vs) [(p0, e0), (p1, e1), (p2, e2), (p3, e3), (p4, e4)] [a0, a1, a2, a3, a4] 0) := by
  kernel_rfl
end Go.Proofs.Ytgdalboilghciaa

set_option maxRecDepth 100000
set_option linter.unusedSimpArgs false
set_option linter.unusedVariables false
namespace Go.Proofs.Ytgdalboilghciaa
open Go.Rx
/-- An entry of the reference's tells a table's. -/
def agrE (es : TabE) (r : RefE) : Prop := okE r.len r.ts = true ∧ lastE r.s.snd es = (r.s, lastT r.ts, true)
theorem stT_true (bs : List Blk) (es : TabE) (l : List Prt) : ∀ (rs : RTab) (i : Nat), l.drop i = rs.map (fun r => r.s.snd) → (∀ r ∈ rs, agrE es r) → (stT bs (l.map Prt.vs) es rs i).denN = some (Res.nrm ⟨.tru, noneL bs, []⟩)
  | [], i, _, _ => rfl
  | r :: rs, i, hd, h => by
    obtain ⟨h1, h2⟩ := h r List.mem_cons_self
    rw [List.map_cons] at hd
    have hx : l[i]? = some r.s.snd := by
      have : (l.drop i)[0]? = some r.s.snd := by rw [hd]; rfl
      rw [List.getElem?_drop] at this
      simpa using this
    have hd' : l.drop (i + 1) = rs.map (fun r => r.s.snd) := by
      have : (l.drop i).drop 1 = rs.map (fun r => r.s.snd) := by rw [hd]; rfl
      rw [List.drop_drop] at this
      exact this
    have hl : i < l.length := (List.getElem?_eq_some_iff.1 hx).1
    have hrow : rowP ((l.map Prt.vs).getD (0 + i) []) = r.s.snd := by
      rw [Nat.zero_add, List.getD_eq_getElem?_getD, List.getElem?_map, hx]
      exact rowP_vs _
    rw [stT, hrow, h2, h1, decide_eq_true (show 0 + i < (l.map Prt.vs).length by rw [List.length_map]; omega), Prt.eqB_self]
    show (Tree.ite (!(r.s.eqB r.s)) _ (Tree.ite true (Tree.ite (lastT r.ts != lastT r.ts) _ _) _) : Tree Res).denN = _
    rw [Ste.eqB_self, bne_self_eq_false]
    exact stT_true bs es l rs (i + 1) hd' fun y hy => h y (List.mem_cons_of_mem _ hy)
/-- A table that stands as the document's: 'stands' says so. -/
theorem st_ans (own ow : Ck) (win ev : Int) (es : TabE) (rs : RTab) (hn : es.length ≤ 5) (hl : rs.length = es.length) (hk : isoL (es.map (·.1)) = rs.map (fun r => r.s.snd)) (h : ∀ r ∈ rs, agrE es r) :
    (stF isoL [.ptr 0 0 0 0, stV ow ev rs] (stB own win es rs)).denN = some (Res.nrm ⟨.tru, noneL (stB own win es rs), []⟩) := by
  have hT := stT_true (stB own win es rs) es (isoL (es.map (·.1))) rs 0 (by rw [List.drop_zero]; exact hk) h
  rcases es with _ | ⟨⟨p0, e0⟩, _ | ⟨⟨p1, e1⟩, _ | ⟨⟨p2, e2⟩, _ | ⟨⟨p3, e3⟩, _ | ⟨⟨p4, e4⟩, _ | ⟨x, es⟩⟩⟩⟩⟩⟩
  · rcases rs with _ | ⟨a, rs⟩
    · exact (st_0 isoL own ow win ev).trans hT
    · simp at hl
  · rcases rs with _ | ⟨a0, _ | ⟨a1, rs⟩⟩
    · simp at hl
    · exact (st_1 isoL own ow win ev p0 e0 a0).trans hT
    · simp at hl
  · rcases rs with _ | ⟨a0, _ | ⟨a1, _ | ⟨a2, rs⟩⟩⟩
    · simp at hl
    · simp at hl
    · exact (st_2 isoL own ow win ev p0 p1 e0 e1 a0 a1).trans hT
    · simp at hl
  · rcases rs with _ | ⟨a0, _ | ⟨a1, _ | ⟨a2, _ | ⟨a3, rs⟩⟩⟩⟩
    · simp at hl
    · simp at hl
    · simp at hl
    · exact (st_3 isoL own ow win ev p0 p1 p2 e0 e1 e2 a0 a1 a2).trans hT
    · simp at hl
  · rcases rs with _ | ⟨a0, _ | ⟨a1, _ | ⟨a2, _ | ⟨a3, _ | ⟨a4, rs⟩⟩⟩⟩⟩
    · simp at hl
    · simp at hl
    · simp at hl
    · simp at hl
    · exact (st_4 isoL own ow win ev p0 p1 p2 p3 e0 e1 e2 e3 a0 a1 a2 a3).trans hT
    · simp at hl
  · rcases rs with _ | ⟨a0, _ | ⟨a1, _ | ⟨a2, _ | ⟨a3, _ | ⟨a4, _ | ⟨a5, rs⟩⟩⟩⟩⟩⟩
    · simp at hl
    · simp at hl
    · simp at hl
    · simp at hl
    · simp at hl
    · exact (st_5 isoL own ow win ev p0 p1 p2 p3 p4 e0 e1 e2 e3 e4 a0 a1 a2 a3 a4).trans hT
    · simp at hl
  · simp at hn
end Go.Proofs.Ytgdalboilghciaa
