/- Layer 8: the law of what one sender says and another one's entry, as a function. The conditions stand in the specification; the row meets them. -/
import Derived.Test.YtgdalboilghciaaFoG
import Derived.Test.YtgdalboilghciaaFoH
import Derived.Test.YtgdalboilghciaaFoI
import Derived.Test.YtgdalboilghciaaFoF
set_option linter.unusedSimpArgs false
set_option linter.unusedVariables false
set_option linter.unnecessarySimpa false
set_option linter.unusedSectionVars false
set_option maxRecDepth 100000
set_option linter.unusedSimpArgs false
set_option linter.unusedVariables false
namespace Go.Proofs.Ytgdalboilghciaa
open Go.Rx
theorem tab5 {P : TabE → Prop} (h0 : P []) (h1 : ∀ a, P [a]) (h2 : ∀ a b, P [a, b]) (h3 : ∀ a b c, P [a, b, c]) (h4 : ∀ a b c d, P [a, b, c, d]) (h5 : ∀ a b c d e, P [a, b, c, d, e]) : ∀ es : TabE, es.length ≤ 5 → P es := by
  intro es h
  rcases es with _ | ⟨a, _ | ⟨b, _ | ⟨c, _ | ⟨d, _ | ⟨e, _ | ⟨f, l⟩⟩⟩⟩⟩⟩
  · exact h0
  · exact h1 a
  · exact h2 a b
  · exact h3 a b c
  · exact h4 a b c d
  · exact h5 a b c d e
  · simp at h
theorem ap_all (s : Ste) (own : Ck) (win : Int) (rs : List (List V)) (n : Nat) (i : Int) (o : Opp) (t : Int) (es : TabE) (hn : es.length ≤ 5) : ∀ u : Up, u.okU es.length → ApFacts s own win rs n i o t es u := by
  revert es
  refine tab5 ?_ ?_ ?_ ?_ ?_ ?_
  · exact fun u hu => apn_0 s own win rs n i o t u hu
  · exact fun a u hu => apn_1 s own win rs n i o t a.1 a.2 u hu
  · exact fun a b u hu => apn_2 s own win rs n i o t a.1 b.1 a.2 b.2 u hu
  · exact fun a b c u hu => apn_3 s own win rs n i o t a.1 b.1 c.1 a.2 b.2 c.2 u hu
  · exact fun a b c d u hu => apn_4 s own win rs n i o t a.1 b.1 c.1 d.1 a.2 b.2 c.2 d.2 u hu
  · exact fun a b c d e u hu => apn_5 s own win rs n i o t a.1 b.1 c.1 d.1 e.1 a.2 b.2 c.2 d.2 e.2 u hu
theorem lastE_set (p k : Prt) (e : Ent) (hk : k ≠ p) : ∀ (es : TabE) (i : Nat), (∀ x, es[i]? = some x → x.1 ≠ p) → lastE p (es.set i (k, e)) = lastE p es
  | [], i, h => rfl
  | x :: r, 0, h => by
    have h0 : p.eqB x.1 = false := by
      rw [Bool.eq_false_iff]
      exact fun he => h x rfl (Prt.eqB_iff.1 he).symm
    have h1 : p.eqB k = false := by
      rw [Bool.eq_false_iff]
      exact fun he => hk (Prt.eqB_iff.1 he).symm
    rw [List.set_cons_zero, lastE, lastE, h0]
    show (match p.eqB k with | true => _ | false => _) = _
    rw [h1]
  | x :: r, i + 1, h => by
    rw [List.set_cons_succ, lastE, lastE, lastE_set p k e hk r i (fun y hy => h y (by simpa using hy))]
theorem lastE_erase (p : Prt) : ∀ (es : TabE) (i : Nat), (∀ x, es[i]? = some x → x.1 ≠ p) → lastE p (es.eraseIdx i) = lastE p es
  | [], i, h => rfl
  | x :: r, 0, h => by
    have h0 : p.eqB x.1 = false := by
      rw [Bool.eq_false_iff]
      exact fun he => h x rfl (Prt.eqB_iff.1 he).symm
    rw [List.eraseIdx_cons_zero, lastE, h0]
  | x :: r, i + 1, h => by
    rw [List.eraseIdx_cons_succ, lastE, lastE, lastE_erase p r i (fun y hy => h y (by simpa using hy))]
theorem lastE_app (p k : Prt) (e : Ent) (hk : k ≠ p) : ∀ es : TabE, lastE p (es ++ [(k, e)]) = lastE p es
  | [] => by
    have h1 : p.eqB k = false := by
      rw [Bool.eq_false_iff]
      exact fun he => hk (Prt.eqB_iff.1 he).symm
    show (match p.eqB k with | true => _ | false => _) = _
    rw [h1]
  | x :: r => by
    rw [List.cons_append, lastE, lastE, lastE_app p k e hk r]
theorem last_up (srt : List Prt → List Prt) (own : Ck) (win : Int) (es : TabE) (o : Opp) (p : Prt) (hp : o.s.snd ≠ p) (h2 : (o.k == 2) = false) (h3 : (o.k == 0) = false ∨ (doU srt own win es o).2 ≠ 3) : lastE p ((doU srt own win es o).1.tab es) = lastE p es := by
  revert h3
  unfold doU
  rw [h2]
  cases o.k == 0 with
  | true =>
    cases badB own o.s o.now with
    | true => exact fun _ => rfl
    | false =>
      cases hf : findI o.s.snd es 0 with
      | some i =>
        dsimp only
        cases decide ((es.getD i default).2.t0 > o.now) with
        | true => exact fun _ => rfl
        | false =>
          intro _
          obtain ⟨_, _, e, he⟩ := find_some hf
          have he : es[i]? = some (o.s.snd, e) := he
          have hk : (es.getD i default).1 = o.s.snd := by
            rw [List.getD_eq_getElem?_getD, he]; rfl
          show lastE p (es.set i ((es.getD i default).1, _)) = _
          rw [hk]
          exact lastE_set p _ _ hp es i fun x hx => by rw [he] at hx; cases hx; exact hp
      | none =>
        dsimp only
        cases hb : Nat.ble 5 es.length with
        | false => exact fun _ => lastE_app p _ _ hp es
        | true =>
          cases ovB srt es win o.now with
          | false => exact fun _ => rfl
          | true =>
            cases hg : findI (ovP srt es win o.now) es 0 with
            | none => exact fun _ => rfl
            | some i =>
              intro h
              rcases h with h | h
              · cases h
              · exact absurd rfl h
  | false =>
    cases o.k == 1 with
    | true =>
      cases hf : findI o.s.snd es 0 with
      | none => exact fun _ => rfl
      | some i =>
        intro _
        obtain ⟨_, _, e, he⟩ := find_some hf
        have he : es[i]? = some (o.s.snd, e) := he
        exact lastE_erase p es i fun x hx => by rw [he] at hx; cases hx; exact hp
    | false => exact fun _ => rfl
theorem apC_true {s : Ste} {es : TabE} {u : Up} {L F : LRes} (h : lastE s.snd (u.tab es) = lastE s.snd es) : (apC s es u L F).den = some L := by
  unfold apC
  rw [h, Ste.eqB_self]
  show (Tree.ite ((lastE s.snd es).2.1 != (lastE s.snd es).2.1) _ _ : Tree LRes).den = _
  rw [bne_self_eq_false]
  show (Tree.ite (!((lastE s.snd es).2.2 == (lastE s.snd es).2.2)) _ _ : Tree LRes).den = _
  rw [beq_self_eq_true]
  rfl
theorem apTr_true (srt : List Prt → List Prt) (own : Ck) (win : Int) (s : Ste) (o : Opp) (es : TabE) (L F : LRes) : (apTr s o (doU srt own win es o).2 es (doU srt own win es o).1 L F).den = some L := by
  unfold apTr
  cases h2 : o.k == 2 with
  | true => rfl
  | false =>
    cases hs : o.s.snd.eqB s.snd with
    | true => rfl
    | false =>
      have hp : o.s.snd ≠ s.snd := fun e => by
        rw [e, Prt.eqB_self] at hs
        cases hs
      show (Tree.ite (o.k == 0) _ _ : Tree LRes).den = _
      cases h0 : o.k == 0 with
      | false => exact apC_true (last_up srt own win es o s.snd hp h2 (.inl h0))
      | true =>
        show (Tree.ite ((doU srt own win es o).2 == 3) _ _ : Tree LRes).den = _
        cases h3 : (doU srt own win es o).2 == 3 with
        | true => rfl
        | false => exact apC_true (last_up srt own win es o s.snd hp h2 (.inr (by simpa using h3)))
theorem kept_rep (K : List Nat) (n : Nat) : K.all (keptB (List.replicate n (none : Option (Option Blk)))) = true := by
  rw [List.all_eq_true]
  intro b _
  unfold keptB
  rw [List.getElem?_replicate]
  split <;> rename_i h
  · split at h <;> cases h
  · rfl
theorem ap_run (s : Ste) (own : Ck) (win : Int) (l : List Opp) (hl : l.length ≤ 1000) : ∀ (d k : Nat) (es : TabE), k + d = l.length → es.length ≤ 5 →
    RunG P [0, 2] 98 [5, 7, 38, 39, 40] [6] (loopAt Try.f8 0) (d + 1) (apV l.length k) (apB s own win (l.map Opp.vs) es) (.exit 0) [.any] := by
  intro d
  induction d with
  | zero =>
    intro k es hk hn
    obtain ⟨hu, _⟩ := doU_okU (srt := isoL) own win es ⟨5, 0, default⟩ hn
    have hx := (ap_all s own win (l.map Opp.vs) l.length k ⟨5, 0, default⟩ (doU isoL own win es ⟨5, 0, default⟩).2 es hn _ hu).1
    unfold apX at hx
    rw [decide_eq_false (show ¬ ((k : Nat) : Int) < (l.length : Int) by omega)] at hx
    unfold RunG
    refine ⟨_, loopsOf [], apE es.length, ?_, LoopsOK.nil (by kernel_rfl), hx, kept_rep _ _, .inl ⟨by show Ex.exit 0 ≠ Ex.nrm; decide, rfl, rfl⟩⟩
    exact (.cons la_ok (.cons (or_ok (do_ok (srt := isoL) fun _ => rfl) (doU_ok (fun _ => rfl) own win es _ hn)) (.nil P)) : GammaOK P (apG _ _ _))
  | succ d ih =>
    intro k es hk hn
    have hkl : k < l.length := by omega
    obtain ⟨o, ho⟩ : ∃ o, l[k]? = some o := ⟨l[k], List.getElem?_eq_getElem hkl⟩
    obtain ⟨hu, hn'⟩ := doU_okU (srt := isoL) own win es o hn
    obtain ⟨f1, f2, f3, f4, f5, f6⟩ := ap_all s own win (l.map Opp.vs) l.length k o (doU isoL own win es o).2 es hn _ hu
    have hrow : rowO ((l.map Opp.vs).getD (0 + ((k : Nat) : Int).toNat) []) = o := by
      rw [Int.toNat_natCast, Nat.zero_add, List.getD_eq_getElem?_getD, List.getElem?_map, ho]
      exact rowO_vs o
    rw [hrow] at f1
    unfold apX at f1
    rw [decide_eq_true (show ((k : Nat) : Int) < (l.length : Int) by omega), decide_eq_true (show (0 : Int) ≤ ((k : Nat) : Int) by omega), eqAB_self,
      decide_eq_true (show 0 + ((k : Nat) : Int).toNat < (l.map Opp.vs).length by rw [Int.toNat_natCast, List.length_map]; omega)] at f1
    have f1 := f1.trans (apTr_true isoL own win s o es (apL l.length k es (doU isoL own win es o).1) _)
    have wk : IntKind.i64.wrap (((k : Nat) : Int) + 1) = ((k + 1 : Nat) : Int) := by rw [wrap64_id (by omega) (by omega)]; omega
    rw [wk] at f3
    unfold RunG
    refine ⟨_, loopsOf [], apL l.length k es (doU isoL own win es o).1, ?_, LoopsOK.nil (by kernel_rfl), f1, f5, .inr ⟨rfl, f2, f6, ?_⟩⟩
    · exact (.cons la_ok (.cons (or_ok (do_ok (srt := isoL) fun _ => rfl) (doU_ok (fun _ => rfl) own win es o hn)) (.nil P)) : GammaOK P (apG _ _ _))
    · rw [f3, f4]
      exact ih (k + 1) _ (by omega) hn'
/-- Rows of calls. -/
noncomputable def okO (n : Nat) (rs : List (List V)) : Bool := @decide (∃ l : List Opp, rs = l.map Opp.vs ∧ l.length = n) (Classical.propDecidable _)
theorem okO_iff {n : Nat} {rs : List (List V)} : okO n rs = true ↔ ∃ l : List Opp, rs = l.map Opp.vs ∧ l.length = n := by
  unfold okO
  exact ⟨fun h => @of_decide_eq_true _ (Classical.propDecidable _) h, fun h => @decide_eq_true _ (Classical.propDecidable _) h⟩
theorem KVs_int {k : IntKind} {ks : List K} {r : List V} (h : KVs (.int k :: ks) r) : ∃ n r', r = .int k n :: r' ∧ KVs ks r' := by
  obtain ⟨x, xs, rfl, ⟨n, rfl, _⟩, h⟩ := h
  exact ⟨n, xs, rfl, h⟩
theorem row_opp {r : List V} (h : KVs opK r) : ∃ o : Opp, r = o.vs := by
  obtain ⟨n0, r0, e0, h⟩ := KVs_int h
  obtain ⟨n1, r1, e1, h⟩ := KVs_int h
  obtain ⟨n2, r2, e2, h⟩ := KVs_int h
  obtain ⟨n3, r3, e3, h⟩ := KVs_int h
  obtain ⟨n4, r4, e4, h⟩ := KVs_int h
  obtain ⟨n5, r5, e5, h⟩ := KVs_int h
  obtain ⟨n6, r6, e6, h⟩ := KVs_int h
  obtain ⟨n7, r7, e7, h⟩ := KVs_int h
  obtain ⟨n8, r8, e8, h⟩ := KVs_int h
  obtain ⟨n9, r9, e9, h⟩ := KVs_int h
  obtain ⟨n10, r10, e10, h⟩ := KVs_int h
  obtain ⟨n11, r11, e11, h⟩ := KVs_int h
  obtain ⟨n12, r12, e12, h⟩ := KVs_int h
  obtain ⟨n13, r13, e13, h⟩ := KVs_int h
  obtain ⟨n14, r14, e14, h⟩ := KVs_int h
  obtain ⟨n15, r15, e15, h⟩ := KVs_int h
  obtain ⟨n16, r16, e16, h⟩ := KVs_int h
  obtain ⟨n17, r17, e17, h⟩ := KVs_int h
  obtain ⟨n18, r18, e18, h⟩ := KVs_int h
  obtain ⟨n19, r19, e19, h⟩ := KVs_int h
  obtain ⟨n20, r20, e20, h⟩ := KVs_int h
  obtain ⟨n21, r21, e21, h⟩ := KVs_int h
  obtain ⟨n22, r22, e22, h⟩ := KVs_int h
  obtain ⟨n23, r23, e23, h⟩ := KVs_int h
  obtain ⟨n24, r24, e24, h⟩ := KVs_int h
  obtain ⟨n25, r25, e25, h⟩ := KVs_int h
  obtain ⟨n26, r26, e26, h⟩ := KVs_int h
  obtain ⟨n27, r27, e27, h⟩ := KVs_int h
  obtain ⟨n28, r28, e28, h⟩ := KVs_int h
  obtain ⟨n29, r29, e29, h⟩ := KVs_int h
  obtain ⟨n30, r30, e30, h⟩ := KVs_int h
  obtain ⟨n31, r31, e31, h⟩ := KVs_int h
  obtain ⟨n32, r32, e32, h⟩ := KVs_int h
  obtain ⟨n33, r33, e33, h⟩ := KVs_int h
  have h : r33 = [] := h
  rw [e0, e1, e2, e3, e4, e5, e6, e7, e8, e9, e10, e11, e12, e13, e14, e15, e16, e17, e18, e19, e20, e21, e22, e23, e24, e25, e26, e27, e28, e29, e30, e31, e32, e33, h]
  exact ⟨⟨n0, n1, ⟨n2, n3, ⟨n4, n5, n6⟩, ⟨n7, n8, n9, n10, n11, n12, n13, n14⟩, n15, ⟨⟨n16, n17, n18, n19, n20, n21, n22, n23⟩, n24⟩, ⟨⟨n25, n26, n27, n28, n29, n30, n31, n32⟩, n33⟩⟩⟩, rfl⟩
theorem rows_opp : ∀ {rs : List (List V)}, (∀ r ∈ rs, KVs opK r) → ∃ l : List Opp, rs = l.map Opp.vs ∧ l.length = rs.length
  | [], _ => ⟨[], rfl, rfl⟩
  | r :: rs, h => by
    obtain ⟨o, ho⟩ := row_opp (h r List.mem_cons_self)
    obtain ⟨l, h1, h2⟩ := rows_opp fun x hx => h x (List.mem_cons_of_mem _ hx)
    exact ⟨o :: l, by rw [List.map_cons, ← ho, ← h1], by rw [List.length_cons, List.length_cons, h2]⟩
noncomputable def apLf (vals : List V) (bs : List Blk) : Tree LRes := match vals, bs with
  | [.ptr 0 0 0 0, .ptr 1 0 0 0, .sl 2 0 0 34 n none, .int .i64 n', .int .i64 0], [Body.cells sc, tc, Body.rows sch rs, kb] => match Ste.p sc, tabPk 2 [tc, kb] with
    | some (s, []), some (own, win, []) => .lit (decide (sch = opK)) (.need (okO n rs && (decide (n ≤ 1000) && decide (n' = (n : Int)))) (.leaf ⟨.exit 0, [.any], goneU [0, 2] 4, []⟩))
    | _, _ => .fail
  | _, _ => .fail
noncomputable abbrev apLs : LSpec := ⟨98, [5, 7, 38, 39, 40], [6], apLf⟩
theorem ap_loop : LoopOK P (loopAt Try.f8 0) apLs := by
  refine loop_okG [0, 2] hm apLs ?_
  intro vals bs r h
  change (apLf vals bs).den = some r at h
  unfold apLf at h
  split at h
  · rename_i n n' sc tc sch rs kb
    split at h
    · rename_i s own win hs hb
      have hb := tabPk_eq hb
      have hs := Ste.p_eq hs
      rw [List.append_nil] at hs
      rw [den_lit, den_need] at h
      obtain ⟨h1, h2, h⟩ := h
      simp only [decide_eq_true_eq] at h1
      simp only [Bool.and_eq_true, decide_eq_true_eq, okO_iff] at h2
      obtain ⟨⟨l, rfl, rfl⟩, h3, rfl⟩ := h2
      rw [denLf] at h
      cases h
      subst h1 hs
      refine ⟨rfl, rfl, rfl, l.length + 1, ?_⟩
      have hr := ap_run s own win l h3 l.length 0 [] (by omega) (by decide)
      have hb : tc :: [kb] = Body.cells (own.vs ++ [.int .i64 win, .mapr 3]) :: [Body.kv [] []] := hb
      have e1 := (List.cons.inj hb).1
      have e2 := (List.cons.inj (List.cons.inj hb).2).1
      rw [e1, e2]
      exact hr
    · simp [den_fail] at h
  · simp [den_fail] at h
abbrev awG : List (Nat × Rx.Spec) := [(9, neS), (10, alS)]
noncomputable def awT (own : Ck) (ev : Int) (n : Nat) (rs : List (List V)) : Tree Res :=
  .ite (decide (ev < 1)) (.leaf ⟨.tru, [none], []⟩) (.ite (decide (ev > 1099511627776)) (.leaf ⟨.tru, [none], []⟩) (.ite (decide ((n : Int) > 300)) (.leaf ⟨.tru, [none], []⟩)
    (.ite (okO n rs && (decide (n ≤ 1000) && decide ((n : Int) = (n : Int)))) (.leaf ⟨.tru, [none], []⟩) .fail)))
theorem aw_nf (own : Ck) (ev : Int) (n : Nat) (rs : List (List V)) (s : Ste) : Tree.denN (fFn P (specsOf awG) (loopsOf [(5, apLs)]) Try.f8 [.agg (own.vs ++ [.int .i64 ev]), .sl 0 0 0 34 n none, s.v] [.rows opK rs]) = Tree.denN (awT own ev n rs) := by
  kernel_rfl
noncomputable def awS : Rx.Spec := fun a b => match a, b with
  | [q, .sl 0 0 0 34 n none, t], [.rows sch rs] => match Sea.of q, Ste.of t with
    | some x, some s => .lit (decide (sch = opK)) (.need (okO n rs) (.leaf ⟨.bool true, [none], []⟩))
    | _, _ => .fail
  | _, _ => .fail
theorem aw_true (own : Ck) (ev : Int) (n : Nat) (rs : List (List V)) (h : okO n rs = true) : (awT own ev n rs).denN = some (Res.nrm ⟨.bool true, [none], []⟩) := by
  unfold awT
  simp only [denN_ite, denN_leaf]
  split
  · rfl
  split
  · rfl
  split
  · rfl
  rename_i c3
  simp only [decide_eq_true_eq] at c3
  rw [h, decide_eq_true (show n ≤ 1000 by omega)]
  rfl
theorem aw_ok : SpecOK P 8 awS := by
  refine specOK_fast (.cons ne_ok (.cons (al_ok (srt := isoL) fun _ => rfl) (.nil P)) : GammaOK P awG) hm (Λ := loopsOf [(5, apLs)]) Try.func8 (by kernel_rfl) (LoopsOK.one (by kernel_rfl) ap_loop) ?_
  intro args bs r h
  unfold awS at h
  split at h
  · rename_i q n t sch rs
    split at h
    · rename_i x s h1 h2
      have h1 := Sea.of_eq h1
      have h2 := Ste.of_eq h2
      subst h1 h2
      rw [den_lit, den_need, denLf] at h
      obtain ⟨h3, h4, h⟩ := h
      simp only [decide_eq_true_eq] at h3
      subst h3
      cases h
      exact (aw_nf x.own x.ev n rs s).trans (aw_true x.own x.ev n rs h4)
    · simp [den_fail] at h
  · simp [den_fail] at h
end Go.Proofs.Ytgdalboilghciaa
