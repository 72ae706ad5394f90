/- Layer 8: ForeignAll: its loop, and what it answers. The conditions stand in the specifications. -/
import Derived.Test.YtgdalboilghciaaAlQ
import Derived.Test.YtgdalboilghciaaFoF
set_option linter.unusedSimpArgs false
set_option linter.unusedVariables false
set_option linter.unnecessarySimpa false
set_option linter.unusedSectionVars false
set_option maxRecDepth 100000
set_option linter.unusedSimpArgs false
set_option linter.unusedVariables false
namespace Go.Proofs.Ytgdalboilghciaa
open Go.Rx
theorem Inv.wf {N : Nat} {es : TabE} {rt : RTab} (h : Inv N es rt) : wfE es = true := by
  unfold wfE
  rw [List.all_eq_true]
  intro x hx
  obtain ⟨r, hr, rfl⟩ := List.mem_map.1 (h.perm.mem_iff.1 hx)
  have h1 : (0 : Int) ≤ min (r.ts.length : Int) 2 := by omega
  have h2 : min (r.ts.length : Int) 2 ≤ 2 := by omega
  show (decide ((0 : Int) ≤ min (r.ts.length : Int) 2) && decide (min (r.ts.length : Int) 2 ≤ 2)) = true
  rw [decide_eq_true h1, decide_eq_true h2]
  rfl
theorem quRes_ok {own : Ck} {win now : Int} {es : TabE} (hn : es.length ≤ 5) (hw : wfE es = true) : (quS isoL [.ptr 0 0 0 0, .int .i64 now] (tabB own win es)).denN = some (quRes es.length (quF now win es (isoL (es.map (·.1))))).nrm := by
  unfold quS
  simp only [tabP_tabB]
  rw [Nat.ble_eq.mpr hn]
  show (quR isoL es win now).denN = _
  unfold quR
  rw [hw]
  rfl
theorem rqF_len {ev now : Int} {rt : RTab} (h : rt.length ≤ 5) : (rqF ev now rt).length ≤ 1000 := by
  unfold rqF
  rw [List.length_map]
  have := List.length_filter_le (rqC ev now) rt
  omega
/-- How the loop ends: with both tables. -/
def AfEnd (now ev : Int) (own : Ck) (win : Int) (rs : List (List V)) (n N : Nat) (k : Int) (es : TabE) (rt : RTab) (q : TabE × RTab) : Prop :=
  RunT P 4 [0, 2] 119 [2, 7, 9, 68, 69, 70] [6] (loopAt Try.f7 0) N (afV now n k) (afB ev own win rs es rt) (.exit 0) [.any] (afB ev own win rs q.1 q.2) ∧ q.1.length ≤ 5 ∧ Inv n q.1 q.2
/-- A round's calls are answered so. -/
theorem af_calls {N : Nat} {es : TabE} {rt : RTab} (h : Inv N es rt) (hN : N + 1 ≤ 1000000) (hn : es.length ≤ 5) (own : Ck) (ev : Int) (o : Opp) :
    GammaOK P (afGs ev own (IntKind.i64.wrap (4 * ev)) o (doU isoL own (IntKind.i64.wrap (4 * ev)) es o).2 o.now (rqF ev o.now ((rDo own ev rt o).1.tab rt)) es rt (doU isoL own (IntKind.i64.wrap (4 * ev)) es o).1 (rDo own ev rt o).1) := by
  obtain ⟨e1, e2, hI⟩ := step h hn own ev o
  have hl := h.len
  obtain ⟨hu, hn'⟩ := doU_okU (srt := isoL) own (IntKind.i64.wrap (4 * ev)) es o hn
  have hl' := hI.len
  obtain ⟨s0, k0, d0⟩ := rdo_ans own ev o rt (by omega) (h.okT (by omega))
  obtain ⟨s4, k4, d4⟩ := rq_ans own ev o.now ((rDo own ev rt o).1.tab rt) (by omega) fun e he => by
    have hg := hI.good e he
    have := hg.le
    exact ⟨hg.len, by have := hg.len; omega⟩
  obtain ⟨s5, k5, d5⟩ := sm_ans (rqF ev o.now ((rDo own ev rt o).1.tab rt)) (rqF_len (by omega))
  rw [← e1] at d0
  have hq := quRes_ok (own := own) (win := IntKind.i64.wrap (4 * ev)) (now := o.now) hn' hI.wf
  rw [hI.qual ev o.now] at hq
  exact .cons (or_ok k0 d0) (.cons (or_ok (do_ok (srt := isoL) fun _ => rfl) (doU_ok (fun _ => rfl) own _ es o hn)) (.cons (or_ok (st_fn (srt := isoL) fun _ => rfl) (st_ans own own _ ev _ _ hn' hl'.symm hI.iso (hI.agr hN)))
    (.cons (inl_ok (GammaOK.nil P) hm Try.func15 (by kernel_rfl) (LoopsOK.nil (by kernel_rfl))) (.cons (or_ok (qu_ok (srt := isoL) fun _ => rfl) hq) (.cons (or_ok k4 d4) (.cons (or_ok k5 d5) (.nil P)))))))
theorem af_run (now ev : Int) (own : Ck) (l : List Opp) (hl : l.length ≤ 1000) : ∀ (d k : Nat) (es : TabE) (rt : RTab), k + d = l.length → es.length ≤ 5 → Inv k es rt →
    ∃ q, AfEnd now ev own (IntKind.i64.wrap (4 * ev)) (l.map Opp.vs) l.length (d + 1) k es rt q := by
  intro d
  induction d with
  | zero =>
    intro k es rt hk hn hI
    obtain ⟨e1, e2, hI'⟩ := step hI hn own ev ⟨5, 0, default⟩
    have hx := (af_all ev own (IntKind.i64.wrap (4 * ev)) (l.map Opp.vs) l.length now k ⟨5, 0, default⟩ (doU isoL own (IntKind.i64.wrap (4 * ev)) es ⟨5, 0, default⟩).2 0 (rqF ev 0 ((rDo own ev rt ⟨5, 0, default⟩).1.tab rt)) es rt hn hI.len _ _ e2).1
    unfold afX at hx
    rw [decide_eq_false (show ¬ ((k : Nat) : Int) < (l.length : Int) by omega)] at hx
    have hkl : k = l.length := by omega
    subst hkl
    refine ⟨(es, rt), ?_, hn, hI⟩
    rw [RunT]
    refine ⟨_, loopsOf [], afE es.length, af_calls hI (by omega) hn own ev ⟨5, 0, default⟩, LoopsOK.nil (by kernel_rfl), hx, .inl ⟨by show Ex.exit 0 ≠ Ex.nrm; decide, rfl, rfl, rfl, ?_, rfl⟩⟩
    have hlen : (afB ev own (IntKind.i64.wrap (4 * ev)) (l.map Opp.vs) es rt).length = afN es.length := by
      have hl2 := hI.len
      rcases rt with _ | ⟨r, rt⟩
      · obtain rfl : es = [] := List.eq_nil_of_length_eq_zero hl2
        rfl
      · show ([Body.cells _] ++ (es.map _ ++ tsB (r :: rt))).length + 1 + 1 + 1 + 1 = _
        unfold tsB
        rw [List.length_append, List.length_append, List.length_map, List.length_map, ← hl2, List.length_singleton, hl2, List.length_cons]
        show _ = 5 + (rt.length + 1) + (rt.length + 1)
        omega
    rw [hlen]
    rfl
  | succ d ih =>
    intro k es rt hk hn hI
    have hkl : k < l.length := by omega
    obtain ⟨o, ho⟩ : ∃ o, l[k]? = some o := ⟨l[k], List.getElem?_eq_getElem hkl⟩
    obtain ⟨e1, e2, hI'⟩ := step hI hn own ev o
    obtain ⟨hu, hn'⟩ := doU_okU (srt := isoL) own (IntKind.i64.wrap (4 * ev)) es o hn
    obtain ⟨f1, f2, f3, f4, f5, f6, f7⟩ := af_all ev own (IntKind.i64.wrap (4 * ev)) (l.map Opp.vs) l.length now k o (doU isoL own (IntKind.i64.wrap (4 * ev)) es o).2 o.now (rqF ev o.now ((rDo own ev rt o).1.tab rt)) es rt hn hI.len _ _ e2
    have hrow : rowO ((l.map Opp.vs).getD (0 + ((k : Nat) : Int).toNat) []) = o := by
      rw [Int.toNat_natCast, Nat.zero_add, List.getD_eq_getElem?_getD, List.getElem?_map, ho]
      exact rowO_vs o
    rw [hrow] at f1
    unfold afX at f1
    rw [decide_eq_true (show ((k : Nat) : Int) < (l.length : Int) by omega), decide_eq_true (show (0 : Int) ≤ ((k : Nat) : Int) by omega),
      decide_eq_true (show 0 + ((k : Nat) : Int).toNat < (l.map Opp.vs).length by rw [Int.toNat_natCast, List.length_map]; omega)] at f1
    unfold afT at f1
    rw [eqAB_self, eqAB_self, eqAB_self, eqAB_self, eqAB_self, eqAB_self, bne_self_eq_false] at f1
    have f1 : Tree.den (afRd (afGs ev own (IntKind.i64.wrap (4 * ev)) o (doU isoL own (IntKind.i64.wrap (4 * ev)) es o).2 o.now (rqF ev o.now ((rDo own ev rt o).1.tab rt)) es rt (doU isoL own (IntKind.i64.wrap (4 * ev)) es o).1 (rDo own ev rt o).1) (afV now l.length k) (afB ev own (IntKind.i64.wrap (4 * ev)) (l.map Opp.vs) es rt)) = some (afL now l.length k ev own es rt (doU isoL own (IntKind.i64.wrap (4 * ev)) es o).1 (rDo own ev rt o).1) := by
      cases c1 : decide (o.now < -4611686018427387904) with
      | true =>
        rw [c1] at f1
        exact f1
      | false =>
        cases c2 : decide (o.now > 4611686018427387904) with
        | true =>
          rw [c1, c2] at f1
          exact f1
        | false =>
          rw [c1, c2] at f1
          exact f1
    have wk : IntKind.i64.wrap (((k : Nat) : Int) + 1) = ((k + 1 : Nat) : Int) := by rw [wrap64_id (by omega) (by omega)]; omega
    rw [wk] at f3
    obtain ⟨q, hq1, hq2⟩ := ih (k + 1) _ _ (by omega) hn' hI'
    refine ⟨q, ?_, hq2⟩
    rw [RunT]
    refine ⟨_, loopsOf [], _, af_calls hI (by omega) hn own ev o, LoopsOK.nil (by kernel_rfl), f1, .inr ⟨rfl, f2, f5, f7, f6, ?_⟩⟩
    rw [f3, f4]
    exact hq1
/-- Rows of calls. -/
noncomputable def okO (n : Nat) (rs : List (List V)) : Bool := @decide (∃ l : List Opp, rs = l.map Opp.vs ∧ l.length = n) (Classical.propDecidable _)
theorem okO_iff {n : Nat} {rs : List (List V)} : okO n rs = true ↔ ∃ l : List Opp, rs = l.map Opp.vs ∧ l.length = n := by
  unfold okO
  exact ⟨fun h => @of_decide_eq_true _ (Classical.propDecidable _) h, fun h => @decide_eq_true _ (Classical.propDecidable _) h⟩
theorem KVs_int {k : IntKind} {ks : List K} {r : List V} (h : KVs (.int k :: ks) r) : ∃ n r', r = .int k n :: r' ∧ KVs ks r' := by
  obtain ⟨x, xs, rfl, ⟨n, rfl, _⟩, h⟩ := h
  exact ⟨n, xs, rfl, h⟩
theorem row_opp {r : List V} (h : KVs opK r) : ∃ o : Opp, r = o.vs := by
  obtain ⟨n0, r0, e0, h⟩ := KVs_int h
  obtain ⟨n1, r1, e1, h⟩ := KVs_int h
  obtain ⟨n2, r2, e2, h⟩ := KVs_int h
  obtain ⟨n3, r3, e3, h⟩ := KVs_int h
  obtain ⟨n4, r4, e4, h⟩ := KVs_int h
  obtain ⟨n5, r5, e5, h⟩ := KVs_int h
  obtain ⟨n6, r6, e6, h⟩ := KVs_int h
  obtain ⟨n7, r7, e7, h⟩ := KVs_int h
  obtain ⟨n8, r8, e8, h⟩ := KVs_int h
  obtain ⟨n9, r9, e9, h⟩ := KVs_int h
  obtain ⟨n10, r10, e10, h⟩ := KVs_int h
  obtain ⟨n11, r11, e11, h⟩ := KVs_int h
  obtain ⟨n12, r12, e12, h⟩ := KVs_int h
  obtain ⟨n13, r13, e13, h⟩ := KVs_int h
  obtain ⟨n14, r14, e14, h⟩ := KVs_int h
  obtain ⟨n15, r15, e15, h⟩ := KVs_int h
  obtain ⟨n16, r16, e16, h⟩ := KVs_int h
  obtain ⟨n17, r17, e17, h⟩ := KVs_int h
  obtain ⟨n18, r18, e18, h⟩ := KVs_int h
  obtain ⟨n19, r19, e19, h⟩ := KVs_int h
  obtain ⟨n20, r20, e20, h⟩ := KVs_int h
  obtain ⟨n21, r21, e21, h⟩ := KVs_int h
  obtain ⟨n22, r22, e22, h⟩ := KVs_int h
  obtain ⟨n23, r23, e23, h⟩ := KVs_int h
  obtain ⟨n24, r24, e24, h⟩ := KVs_int h
  obtain ⟨n25, r25, e25, h⟩ := KVs_int h
  obtain ⟨n26, r26, e26, h⟩ := KVs_int h
  obtain ⟨n27, r27, e27, h⟩ := KVs_int h
  obtain ⟨n28, r28, e28, h⟩ := KVs_int h
  obtain ⟨n29, r29, e29, h⟩ := KVs_int h
  obtain ⟨n30, r30, e30, h⟩ := KVs_int h
  obtain ⟨n31, r31, e31, h⟩ := KVs_int h
  obtain ⟨n32, r32, e32, h⟩ := KVs_int h
  obtain ⟨n33, r33, e33, h⟩ := KVs_int h
  have h : r33 = [] := h
  rw [e0, e1, e2, e3, e4, e5, e6, e7, e8, e9, e10, e11, e12, e13, e14, e15, e16, e17, e18, e19, e20, e21, e22, e23, e24, e25, e26, e27, e28, e29, e30, e31, e32, e33, h]
  exact ⟨⟨n0, n1, ⟨n2, n3, ⟨n4, n5, n6⟩, ⟨n7, n8, n9, n10, n11, n12, n13, n14⟩, n15, ⟨⟨n16, n17, n18, n19, n20, n21, n22, n23⟩, n24⟩, ⟨⟨n25, n26, n27, n28, n29, n30, n31, n32⟩, n33⟩⟩⟩, rfl⟩
theorem rows_opp : ∀ {rs : List (List V)}, (∀ r ∈ rs, KVs opK r) → ∃ l : List Opp, rs = l.map Opp.vs ∧ l.length = rs.length
  | [], _ => ⟨[], rfl, rfl⟩
  | r :: rs, h => by
    obtain ⟨o, ho⟩ := row_opp (h r List.mem_cons_self)
    obtain ⟨l, h1, h2⟩ := rows_opp fun x hx => h x (List.mem_cons_of_mem _ hx)
    exact ⟨o :: l, by rw [List.map_cons, ← ho, ← h1], by rw [List.length_cons, List.length_cons, h2]⟩
/-- Tables of at most five entries, taken apart. -/
def shT2 {α : Type} (f : TabE → RTab → Tree α) (es : TabE) (rt : RTab) : Tree α :=
  .ite (Nat.beq es.length 0) (f [] []) (.ite (Nat.beq es.length 1) (f [es.getD 0 default] [rt.getD 0 default]) (.ite (Nat.beq es.length 2) (f [es.getD 0 default, es.getD 1 default] [rt.getD 0 default, rt.getD 1 default]) (.ite (Nat.beq es.length 3) (f [es.getD 0 default, es.getD 1 default, es.getD 2 default] [rt.getD 0 default, rt.getD 1 default, rt.getD 2 default])
    (.ite (Nat.beq es.length 4) (f [es.getD 0 default, es.getD 1 default, es.getD 2 default, es.getD 3 default] [rt.getD 0 default, rt.getD 1 default, rt.getD 2 default, rt.getD 3 default]) (.ite (Nat.beq es.length 5) (f [es.getD 0 default, es.getD 1 default, es.getD 2 default, es.getD 3 default, es.getD 4 default] [rt.getD 0 default, rt.getD 1 default, rt.getD 2 default, rt.getD 3 default, rt.getD 4 default]) .fail)))))
theorem shT2_den {α : Type} (f : TabE → RTab → Tree α) : ∀ (es : TabE) (rt : RTab), es.length ≤ 5 → es.length = rt.length → (shT2 f es rt).den = (f es rt).den := by
  refine tab2 ?_ ?_ ?_ ?_ ?_ ?_ <;> intros <;> rfl
noncomputable def outA (now ev : Int) (own : Ck) (n : Nat) (rs : List (List V)) : TabE × RTab := Classical.epsilon fun q => AfEnd now ev own (IntKind.i64.wrap (4 * ev)) rs n (n + 1) 0 [] [] q
def afR (ev : Int) (own : Ck) (es : TabE) (rt : RTab) : LRes :=
  ⟨.exit 0, [.any], [none, some (some (.cells (own.vs ++ [.int .i64 ev, outL 4 (idsF (5 + es.length) rt)]))), none, some (some (.kv (es.map fun x => x.1.v) (ptrsF (afP es.length) es.length)))], outB (idsF (5 + es.length) rt) ++ (es.map (fun x => Body.cells x.2.vs) ++ tsB rt)⟩
noncomputable def afLf (vals : List V) (bs : List Blk) : Tree LRes := match vals, bs with
  | [.int .i64 now, .ptr 0 0 0 0, .ptr 1 0 0 0, .sl 2 0 0 34 n none, .int .i64 n', .int .i64 0], [tc, Body.cells xc, Body.rows sch rs, kb] => match Ck.p xc, tabPk 2 [tc, kb] with
    | some (own', [.int .i64 ev, .nils]), some (own, win, []) => .lit (decide (sch = opK)) (.need (own'.eqB own && (decide (win = IntKind.i64.wrap (4 * ev)) && (okO n rs && (decide (n ≤ 1000) && decide (n' = (n : Int))))))
        (shT2 (fun es rt => .leaf (afR ev own es rt)) (outA now ev own n rs).1 (outA now ev own n rs).2))
    | _, _ => .fail
  | _, _ => .fail
noncomputable abbrev afLs : LSpec := ⟨119, [2, 7, 9, 68, 69, 70], [6], afLf⟩
theorem inv_nil : Inv 0 [] [] := ⟨List.Perm.nil, List.Pairwise.nil, fun r hr => by cases hr⟩
theorem outA_ok {now ev : Int} {own : Ck} {n : Nat} {rs : List (List V)} (h : okO n rs = true) (hn : n ≤ 1000) : AfEnd now ev own (IntKind.i64.wrap (4 * ev)) rs n (n + 1) 0 [] [] (outA now ev own n rs) := by
  obtain ⟨l, rfl, rfl⟩ := okO_iff.1 h
  unfold outA
  exact Classical.epsilon_spec (af_run now ev own l hn l.length 0 [] [] (by omega) (by decide) inv_nil)
theorem af_loop : LoopOK P (loopAt Try.f7 0) afLs := by
  refine loop_okT [0, 2] hm afLs ?_
  intro vals bs r h
  change (afLf vals bs).den = some r at h
  unfold afLf at h
  split at h
  · rename_i now n n' tc xc sch rs kb
    split at h
    · rename_i own' ev own win hs hb
      have hb := tabPk_eq hb
      have hs := Ck.p_eq hs
      rw [den_lit, den_need] at h
      obtain ⟨h1, h2, h⟩ := h
      simp only [decide_eq_true_eq] at h1
      simp only [Bool.and_eq_true, decide_eq_true_eq, Ck.eqB_iff] at h2
      obtain ⟨rfl, rfl, h2, h3, rfl⟩ := h2
      subst h1 hs
      have hb : tc :: [kb] = Body.cells (own'.vs ++ [.int .i64 (IntKind.i64.wrap (4 * ev)), .mapr 3]) :: [Body.kv [] []] := hb
      have e1 := (List.cons.inj hb).1
      have e2 := (List.cons.inj (List.cons.inj hb).2).1
      obtain ⟨hr, h4, h5⟩ := outA_ok (now := now) (ev := ev) (own := own') h2 h3
      rw [e1, e2]
      rw [shT2_den _ _ _ h4 h5.len, denLf] at h
      cases h
      refine ⟨afB ev own' (IntKind.i64.wrap (4 * ev)) rs (outA now ev own' n rs).1 (outA now ev own' n rs).2, n + 1, rfl, rfl, ?_, ?_, hr⟩
      · show 4 ≤ _ + 1 + 1 + 1 + 1
        omega
      · show (outB (idsF (5 + (outA now ev own' n rs).1.length) (outA now ev own' n rs).2) ++ ((outA now ev own' n rs).1.map (fun x => Body.cells x.2.vs) ++ tsB (outA now ev own' n rs).2)).all (fun bl => !isLook bl) = true
        rw [List.all_append, List.all_append, Bool.and_eq_true, Bool.and_eq_true]
        refine ⟨?_, ?_, ?_⟩
        · cases (outA now ev own' n rs).2 <;> rfl
        · rw [List.all_eq_true]
          intro x hx
          obtain ⟨y, _, rfl⟩ := List.mem_map.1 hx
          rfl
        · rw [List.all_eq_true]
          intro x hx
          obtain ⟨y, _, rfl⟩ := List.mem_map.1 hx
          rfl
    · simp [den_fail] at h
  · simp [den_fail] at h
end Go.Proofs.Ytgdalboilghciaa

set_option maxRecDepth 100000
set_option linter.unusedSimpArgs false
set_option linter.unusedVariables false
namespace Go.Proofs.Ytgdalboilghciaa
open Go.Rx
noncomputable def orG (A : List V) (B : List Blk) (R : List Blk → Res) : Rx.Spec := fun a b => .need (eqAB a A b B) (.leaf (R b))
theorem orG_ok {k : FuncId} {s : Rx.Spec} (h : SpecOK P k s) {A : List V} {B : List Blk} {R : List Blk → Res} (hR : (s A B).denN = some (R B).nrm) : SpecOK P k (orG A B R) := by
  refine ⟨?_, h.good⟩
  intro args bs r hr
  unfold orG at hr
  rw [den_need] at hr
  obtain ⟨he, hr⟩ := hr
  have hb : args = A ∧ bs = B := by
    unfold eqAB at he
    exact @of_decide_eq_true _ (Classical.propDecidable _) he
  refine (or_ok h hR).correct args bs r ?_
  unfold orS
  rw [den_need]
  exact ⟨he, by rw [← hb.2]; exact hr⟩
def qR (F : List Ste) (b : List Blk) : Res := ⟨.sl b.length 0 0 32 F.length none, noneL b, [.rows stK (F.map Ste.vs)]⟩
noncomputable abbrev akG (own : Ck) (win ev now : Int) (es : TabE) (rt : RTab) (F : List Ste) : List (Nat × Rx.Spec) :=
  [(9, neS), (10, alS), (15, fFn P (specsOf []) (loopsOf []) Try.f15), (12, orG [.ptr 0 0 0 0, .int .i64 now] (tabB own win es) (qR F)), (19, orG [refV own ev rt, .int .i64 now] (refB rt) (qR F)), (18, orS (smA F.length) (smB F) ⟨.tru, [none, none], []⟩)]
def akE (ev : Int) : Tree Res := .ite (decide (ev < 1)) (.leaf ⟨.tru, [none], []⟩) (.ite (decide (ev > 1099511627776)) (.leaf ⟨.tru, [none], []⟩) (.leaf ⟨.fls, [none], []⟩))
noncomputable def akT (own : Ck) (ev now : Int) (n : Nat) (rs : List (List V)) (q : TabE × RTab) (es : TabE) (rt : RTab) (F : List Ste) : Tree Res :=
  .ite (decide (ev < 1)) (akE ev) (.ite (decide (ev > 1099511627776)) (akE ev) (.ite (decide (ev < 1)) (.leaf ⟨.fls, [none], []⟩) (.ite (decide (ev > 1099511627776)) (.leaf ⟨.fls, [none], []⟩) (.ite (decide ((n : Int) > 400)) (.leaf ⟨.tru, [none], []⟩)
    (.ite (decide (now < -4611686018427387904)) (.leaf ⟨.tru, [none], []⟩) (.ite (decide (now > 4611686018427387904)) (.leaf ⟨.tru, [none], []⟩)
      (.ite (own.eqB own && (decide (IntKind.i64.wrap (4 * ev) = IntKind.i64.wrap (4 * ev)) && (okO n rs && (decide (n ≤ 1000) && decide ((n : Int) = (n : Int))))))
        (shT2 (fun es1 rt1 => .ite (eqAB [.ptr 0 0 0 0, .int .i64 now] [.ptr 0 0 0 0, .int .i64 now] (tabB own (IntKind.i64.wrap (4 * ev)) es1) (tabB own (IntKind.i64.wrap (4 * ev)) es))
          (.ite (eqAB [refV own ev rt1, .int .i64 now] [refV own ev rt, .int .i64 now] (refB rt1) (refB rt)) (.ite (eqAB (smA F.length) (smA F.length) (smB F) (smB F)) (.leaf ⟨.tru, [none], []⟩) .fail) .fail) .fail) q.1 q.2) .fail)))))))
theorem ak_nf (own : Ck) (ev now : Int) (n : Nat) (rs : List (List V)) (es : TabE) (rt : RTab) (F : List Ste) : Tree.denN (fFn P (specsOf (akG own (IntKind.i64.wrap (4 * ev)) ev now es rt F)) (loopsOf [(8, afLs)]) Try.f7 [.agg (own.vs ++ [.int .i64 ev]), .sl 0 0 0 34 n none, .int .i64 now] [.rows opK rs]) = Tree.denN (akT own ev now n rs (outA now ev own n rs) es rt F) := by
  kernel_rfl
theorem noneL_ents : ∀ es : TabE, noneL (es.map fun x => Body.cells x.2.vs) = List.replicate es.length none
  | [] => rfl
  | x :: l => by
    have := noneL_ents l
    unfold noneL at this ⊢
    rw [List.map_cons, List.map_cons, this]
    rfl
theorem quRes_qR (own : Ck) (win : Int) (es : TabE) (F : List Ste) : quRes es.length F = qR F (tabB own win es) := by
  have h1 : (tabB own win es).length = es.length + 2 := by
    show (es.map fun x => Body.cells x.2.vs).length + 1 + 1 = _
    rw [List.length_map]
  have h2 : noneL (tabB own win es) = noneU es.length := by
    show none :: none :: noneL (es.map fun x => Body.cells x.2.vs) = _
    rw [noneL_ents]
    rfl
  unfold quRes qR
  rw [h1, h2]
theorem ak_calls {N : Nat} {es : TabE} {rt : RTab} (h : Inv N es rt) (hN : N ≤ 1000000) (hn : es.length ≤ 5) (own : Ck) (ev now : Int) : GammaOK P (akG own (IntKind.i64.wrap (4 * ev)) ev now es rt (rqF ev now rt)) := by
  have hl := h.len
  obtain ⟨s4, k4, d4⟩ := rq_ans own ev now rt (by omega) fun e he => by
    have hg := h.good e he
    have := hg.le
    exact ⟨hg.len, by have := hg.len; omega⟩
  obtain ⟨s5, k5, d5⟩ := sm_ans (rqF ev now rt) (rqF_len (by omega))
  have hq := quRes_ok (own := own) (win := IntKind.i64.wrap (4 * ev)) (now := now) hn h.wf
  rw [h.qual ev now, quRes_qR own (IntKind.i64.wrap (4 * ev))] at hq
  exact .cons ne_ok (.cons (al_ok (srt := isoL) fun _ => rfl) (.cons (inl_ok (GammaOK.nil P) hm Try.func15 (by kernel_rfl) (LoopsOK.nil (by kernel_rfl))) (.cons (orG_ok (qu_ok (srt := isoL) fun _ => rfl) hq) (.cons (orG_ok k4 d4) (.cons (or_ok k5 d5) (.nil P))))))
theorem denN_sh2 (f : TabE → RTab → Tree Res) (es : TabE) (rt : RTab) (h : es.length ≤ 5) (hl : es.length = rt.length) : (shT2 f es rt).denN = (f es rt).denN := by
  unfold Tree.denN
  rw [shT2_den f es rt h hl]
theorem ak_true (own : Ck) (ev now : Int) (n : Nat) (rs : List (List V)) (h : okO n rs = true) (es : TabE) (rt : RTab) (hq : n ≤ 1000 → (es, rt) = outA now ev own n rs) (hn5 : es.length ≤ 5) (hl : es.length = rt.length) (F : List Ste) :
    (akT own ev now n rs (outA now ev own n rs) es rt F).denN = some (Res.nrm ⟨.bool true, [none], []⟩) := by
  unfold akT akE
  simp only [denN_ite, denN_leaf]
  cases c1 : decide (ev < 1) with
  | true => rfl
  | false =>
    cases c2 : decide (ev > 1099511627776) with
    | true => rfl
    | false =>
      cases c3 : decide ((n : Int) > 400) with
      | true => rfl
      | false =>
        cases c4 : decide (now < -4611686018427387904) with
        | true => rfl
        | false =>
          cases c5 : decide (now > 4611686018427387904) with
          | true => rfl
          | false =>
            simp only [decide_eq_false_iff_not] at c3
            have hn : n ≤ 1000 := by omega
            rw [← hq hn, h, decide_eq_true hn, Ck.eqB_self]
            simp only [decide_true, Bool.and_self, Bool.false_eq_true, if_false, if_true]
            rw [denN_sh2 _ _ _ hn5 hl]
            simp only [denN_ite, denN_leaf, eqAB_self]
            rfl
noncomputable def akS : Rx.Spec := fun a b => match a, b with
  | [q, .sl 0 0 0 34 n none, .int .i64 now], [.rows sch rs] => match Sea.of q with
    | some x => .lit (decide (sch = opK)) (.need (okO n rs) (.leaf ⟨.bool true, [none], []⟩))
    | _ => .fail
  | _, _ => .fail
theorem ak_fn (own : Ck) (ev now : Int) (n : Nat) (rs : List (List V)) (h : okO n rs = true) : SpecOK P 7 (orS [.agg (own.vs ++ [.int .i64 ev]), .sl 0 0 0 34 n none, .int .i64 now] [.rows opK rs] ⟨.bool true, [none], []⟩) := by
  obtain ⟨N, es, rt, hN, hI, h5, hq⟩ : ∃ (N : Nat) (es : TabE) (rt : RTab), N ≤ 1000000 ∧ Inv N es rt ∧ es.length ≤ 5 ∧ (n ≤ 1000 → (es, rt) = outA now ev own n rs) := by
    rcases Nat.lt_or_ge 1000 n with hn | hn
    · exact ⟨0, [], [], by omega, inv_nil, by decide, fun h => by omega⟩
    · obtain ⟨_, h5, hI⟩ := outA_ok (now := now) (ev := ev) (own := own) h hn
      exact ⟨n, _, _, by omega, hI, h5, fun _ => rfl⟩
  exact or_ok (inl_ok (ak_calls hI hN h5 own ev now) hm Try.func7 (by kernel_rfl) (LoopsOK.one (by kernel_rfl) af_loop)) ((ak_nf own ev now n rs es rt _).trans (ak_true own ev now n rs h es rt hq h5 hI.len _))
theorem ak_ok : SpecOK P 7 akS := by
  refine ⟨?_, (ak_fn default 0 0 0 [] (okO_iff.2 ⟨[], rfl, rfl⟩)).good⟩
  intro args bs r h
  unfold akS at h
  split at h
  · rename_i q n now sch rs
    split at h
    · rename_i x h1
      have h1 := Sea.of_eq h1
      subst h1
      rw [den_lit, den_need, denLf] at h
      obtain ⟨h3, h4, h⟩ := h
      simp only [decide_eq_true_eq] at h3
      subst h3
      cases h
      refine (ak_fn x.own x.ev now n rs h4).correct _ _ _ ?_
      unfold orS
      rw [den_need]
      exact ⟨eqAB_self _ _, rfl⟩
    · simp [den_fail] at h
  · simp [den_fail] at h
end Go.Proofs.Ytgdalboilghciaa
