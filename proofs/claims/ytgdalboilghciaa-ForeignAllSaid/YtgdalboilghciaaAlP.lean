/- Layer 8: the table stands as the document's, call by call (no program in sight). The conditions stand in the theorems. -/
import Derived.Test.YtgdalboilghciaaAlJ
set_option linter.unusedSimpArgs false
set_option linter.unusedVariables false
set_option linter.unnecessarySimpa false
set_option linter.unusedSectionVars false
set_option maxRecDepth 100000
set_option linter.unusedSimpArgs false
set_option linter.unusedVariables false
namespace Go.Proofs.Ytgdalboilghciaa
open Go.Rx
def ltP (p q : Prt) : Prop := cmpP p q < 0
theorem cmpP_swap (p q : Prt) : cmpP q p = - cmpP p q := by
  rw [cmpP_lx, cmpP_lx, lx_swap]
theorem cmpP_self (p : Prt) : cmpP p p = 0 := by
  have := cmpP_swap p p
  omega
theorem ltP_ne {p q : Prt} (h : ltP p q) : p ≠ q := by
  intro e
  subst e
  unfold ltP at h
  rw [cmpP_self] at h
  omega
theorem ltP_le {p q : Prt} (h : ltP p q) : leP p q := Int.le_of_lt h
theorem ltP_of {p q : Prt} (h : leP p q) (hn : p ≠ q) : ltP p q := by
  unfold ltP
  rcases Int.lt_or_eq_of_le h with h1 | h1
  · exact h1
  · refine absurd (leP_anti h ?_) hn
    unfold leP
    rw [cmpP_swap]
    omega
theorem ltP_trans {p q r : Prt} (h : ltP p q) (k : ltP q r) : ltP p r := by
  refine ltP_of (leP_trans (ltP_le h) (ltP_le k)) ?_
  intro e
  subst e
  unfold ltP at h k
  rw [cmpP_swap] at k
  omega
theorem ltP_not {p q : Prt} (h : ltP p q) : ¬ cmpP q p < 0 := by
  rw [cmpP_swap]
  unfold ltP at h
  omega
theorem ltP_of_not {p q : Prt} (h : ¬ cmpP p q < 0) (hn : p ≠ q) : ltP q p := ltP_of (leP_of_not h) fun e => hn e.symm
abbrev key (r : RefE) : Prt := r.s.snd
def secT (ts : List Int) : Int := match decide (2 ≤ ts.length) with
  | true => ts.getD (ts.length - 2) 0
  | false => 0
/-- The table's entry that an entry of the document's stands for. -/
def pairOf (r : RefE) : Prt × Ent := (r.s.snd, ⟨r.s, lastT r.ts, secT r.ts, min (r.ts.length : Int) 2⟩)
structure GoodR (N : Nat) (r : RefE) : Prop where
  len : r.len = r.ts.length
  pos : 1 ≤ r.ts.length
  le : r.ts.length ≤ N
  tm : ∀ t ∈ r.ts, 0 ≤ t ∧ t ≤ 4611686018427387904
structure Inv (N : Nat) (es : TabE) (rt : RTab) : Prop where
  perm : es.Perm (rt.map pairOf)
  srt : (rt.map key).Pairwise ltP
  good : ∀ r ∈ rt, GoodR N r
theorem key_map (rt : RTab) : (rt.map pairOf).map (·.1) = rt.map key := by
  rw [List.map_map]
  rfl
theorem Inv.keys {N : Nat} {es : TabE} {rt : RTab} (h : Inv N es rt) : (es.map (·.1)).Perm (rt.map key) := by
  rw [← key_map]
  exact h.perm.map _
theorem Inv.iso {N : Nat} {es : TabE} {rt : RTab} (h : Inv N es rt) : isoL (es.map (·.1)) = rt.map key :=
  sorted_eq _ _ (isoL_sorted _) (h.srt.imp fun h => ltP_le h) ((isoL_perm _).trans h.keys)
theorem Inv.nodR {N : Nat} {es : TabE} {rt : RTab} (h : Inv N es rt) : (rt.map key).Nodup := h.srt.imp fun h => ltP_ne h
theorem Inv.nodE {N : Nat} {es : TabE} {rt : RTab} (h : Inv N es rt) : (es.map (·.1)).Nodup := h.keys.nodup_iff.2 h.nodR
theorem Inv.len {N : Nat} {es : TabE} {rt : RTab} (h : Inv N es rt) : es.length = rt.length := by
  rw [h.perm.length_eq, List.length_map]
theorem lastT_mem {ts : List Int} (h : 1 ≤ ts.length) : lastT ts ∈ ts := by
  unfold lastT
  rw [List.getD_eq_getElem?_getD, List.getElem?_eq_getElem (by omega)]
  exact List.getElem_mem _
theorem lastE_mem {p : Prt} {e : Ent} : ∀ {es : TabE}, (es.map (·.1)).Nodup → (p, e) ∈ es → lastE p es = (e.s, e.t0, true)
  | [], _, h => by cases h
  | x :: es, hn, h => by
    rw [List.map_cons, List.nodup_cons] at hn
    rw [lastE]
    rcases List.mem_cons.1 h with rfl | h
    · rw [Prt.eqB_self]
    · have : (p.eqB x.1) = false := by
        cases hp : p.eqB x.1 with
        | false => rfl
        | true =>
          have := Prt.eqB_iff.1 hp
          refine absurd ?_ hn.1
          rw [← this]
          exact List.mem_map.2 ⟨_, h, rfl⟩
      rw [this]
      exact lastE_mem hn.2 h
theorem qC_at {now win : Int} {p : Prt} {e : Ent} : ∀ {es : TabE}, (es.map (·.1)).Nodup → (p, e) ∈ es → qC now win p es = (cntE e e.m.toNat now win == 2)
  | [], _, h => by cases h
  | x :: es, hn, h => by
    rw [List.map_cons, List.nodup_cons] at hn
    rw [qC]
    rcases List.mem_cons.1 h with rfl | h
    · rw [Prt.eqB_self]
    · have : (p.eqB x.1) = false := by
        cases hp : p.eqB x.1 with
        | false => rfl
        | true =>
          have := Prt.eqB_iff.1 hp
          refine absurd ?_ hn.1
          rw [← this]
          exact List.mem_map.2 ⟨_, h, rfl⟩
      rw [this]
      exact qC_at hn.2 h
theorem Inv.mem {N : Nat} {es : TabE} {rt : RTab} (h : Inv N es rt) {r : RefE} (hr : r ∈ rt) : pairOf r ∈ es := h.perm.mem_iff.2 (List.mem_map.2 ⟨r, hr, rfl⟩)
theorem Inv.last {N : Nat} {es : TabE} {rt : RTab} (h : Inv N es rt) {r : RefE} (hr : r ∈ rt) : lastE (key r) es = (r.s, lastT r.ts, true) := lastE_mem h.nodE (h.mem hr)
theorem key_inj {rt : RTab} (hn : (rt.map key).Nodup) {a b : RefE} (ha : a ∈ rt) (hb : b ∈ rt) (he : key a = key b) : a = b := by
  induction rt with
  | nil => cases ha
  | cons x l ih =>
    rw [List.map_cons, List.nodup_cons] at hn
    rcases List.mem_cons.1 ha with e1 | ha'
    · rcases List.mem_cons.1 hb with e2 | hb'
      · rw [e1, e2]
      · exact absurd (by rw [← e1, he]; exact List.mem_map.2 ⟨_, hb', rfl⟩) hn.1
    · rcases List.mem_cons.1 hb with e2 | hb'
      · exact absurd (by rw [← e2, ← he]; exact List.mem_map.2 ⟨_, ha', rfl⟩) hn.1
      · exact ih hn.2 ha' hb'
theorem rFind_none {p : Prt} : ∀ {es : RTab} {k : Nat}, rFind p es k = none → ∀ r ∈ es, key r ≠ p
  | [], k, _, r, hr => by cases hr
  | e :: l, k, h, r, hr => by
    rw [rFind] at h
    split at h
    · cases h
    · rename_i he
      rcases List.mem_cons.1 hr with rfl | hr
      · intro e2
        rw [← e2, Prt.eqB_self] at he
        cases he
      · exact rFind_none h r hr
/-- Who is found in the one is found in the other. -/
theorem Inv.find {N : Nat} {es : TabE} {rt : RTab} (h : Inv N es rt) (p : Prt) :
    (∃ i k r, findI p es 0 = some i ∧ rFind p rt 0 = some k ∧ i < es.length ∧ k < rt.length ∧ es[i]? = some (pairOf r) ∧ rt[k]? = some r ∧ key r = p) ∨ (findI p es 0 = none ∧ rFind p rt 0 = none ∧ ∀ r ∈ rt, key r ≠ p) := by
  cases hf : findI p es 0 with
  | some i =>
    obtain ⟨_, h2, e, he⟩ := find_some hf
    have he : es[i]? = some (p, e) := he
    obtain ⟨r, hr, hre⟩ := List.mem_map.1 (h.perm.mem_iff.1 (List.mem_of_getElem? he))
    have hkr : key r = p := congrArg Prod.fst hre
    left
    cases hg : rFind p rt 0 with
    | none => exact absurd hkr (rFind_none hg r hr)
    | some k =>
      obtain ⟨_, k2, r', hr', hk'⟩ := rFind_lt hg
      have hr' : rt[k]? = some r' := hr'
      have : r' = r := key_inj h.nodR (List.mem_of_getElem? hr') hr (hk'.trans hkr.symm)
      subst this
      exact ⟨i, k, r', rfl, rfl, by omega, by omega, by rw [he, hre], hr', hkr⟩
  | none =>
    right
    have hno : ∀ r ∈ rt, key r ≠ p := fun r hr e => find_none hf _ (h.mem hr) e
    refine ⟨rfl, ?_, hno⟩
    cases hg : rFind p rt 0 with
    | none => rfl
    | some k =>
      obtain ⟨_, _, r', hr', hk'⟩ := rFind_lt hg
      have hr' : rt[k]? = some r' := hr'
      exact absurd hk' (hno r' (List.mem_of_getElem? hr'))
theorem perm_erase {α : Type} {x : α} : ∀ {l : List α} {i : Nat}, l[i]? = some x → l.Perm (x :: l.eraseIdx i)
  | [], i, h => by simp at h
  | y :: l, 0, h => by
    cases h
    exact List.Perm.refl _
  | y :: l, i + 1, h => by
    have h : l[i]? = some x := h
    exact ((perm_erase h).cons y).trans (List.Perm.swap _ _ _)
theorem getElem?_map_eq {r : RefE} {rt : RTab} {k : Nat} (h : rt[k]? = some r) : (rt.map pairOf).Perm (pairOf r :: (rt.eraseIdx k).map pairOf) := (perm_erase h).map pairOf
theorem erase_perm {es : TabE} {rt : RTab} {i k : Nat} {r : RefE} (h : es.Perm (rt.map pairOf)) (hi : es[i]? = some (pairOf r)) (hk : rt[k]? = some r) : (es.eraseIdx i).Perm ((rt.eraseIdx k).map pairOf) :=
  List.Perm.cons_inv (((perm_erase hi).symm.trans h).trans (getElem?_map_eq hk))
theorem set_perm {es : TabE} {i : Nat} {x : Prt × Ent} (hi : i < es.length) : (es.set i x).Perm (x :: es.eraseIdx i) := by
  have := perm_erase (l := es.set i x) (i := i) (x := x) (by rw [List.getElem?_set_self hi])
  rwa [List.eraseIdx_set_eq] at this
theorem rPlace_shift (p : Prt) : ∀ (l : RTab) (j : Nat), rPlace p l (j + 1) = rPlace p l j + 1
  | [], j => rfl
  | x :: r, j => by
    rw [rPlace, rPlace]
    cases decide (cmpP p x.s.snd < 0) with
    | true => rfl
    | false => exact rPlace_shift p r (j + 1)
theorem ins_sorted {r : RefE} : ∀ {l : RTab}, (l.map key).Pairwise ltP → (∀ x ∈ l, key x ≠ key r) → ((l.insertIdx (rPlace (key r) l 0) r).map key).Pairwise ltP
  | [], _, _ => by
    show ([key r]).Pairwise ltP
    simp
  | x :: l, hs, hn => by
    rw [List.map_cons, List.pairwise_cons] at hs
    have hx := hn x List.mem_cons_self
    rw [rPlace]
    cases hc : decide (cmpP (key r) x.s.snd < 0) with
    | true =>
      simp only [decide_eq_true_eq] at hc
      show (key r :: key x :: l.map key).Pairwise ltP
      rw [List.pairwise_cons, List.pairwise_cons]
      refine ⟨?_, hs.1, hs.2⟩
      intro q hq
      rcases List.mem_cons.1 hq with rfl | hq
      · exact hc
      · exact ltP_trans hc (hs.1 q hq)
    | false =>
      simp only [decide_eq_false_iff_not] at hc
      dsimp only
      rw [rPlace_shift, List.insertIdx_succ_cons, List.map_cons, List.pairwise_cons]
      refine ⟨?_, ins_sorted hs.2 fun y hy => hn y (List.mem_cons_of_mem _ hy)⟩
      intro q hq
      obtain ⟨y, hy, rfl⟩ := List.mem_map.1 hq
      have hle := (rPlace_le (key r) l 0).2
      rcases (List.mem_insertIdx (by omega)).1 hy with rfl | hy
      · exact ltP_of_not hc fun e => hx e.symm
      · exact hs.1 _ (List.mem_map.2 ⟨y, hy, rfl⟩)
theorem place_back {r : RefE} : ∀ {l : RTab} {k : Nat}, (l.map key).Pairwise ltP → l[k]? = some r → rPlace (key r) (l.eraseIdx k) 0 = k
  | [], k, _, h => by simp at h
  | x :: l, 0, hs, h => by
    cases h
    rw [List.map_cons, List.pairwise_cons] at hs
    show rPlace (key r) l 0 = 0
    cases l with
    | nil => rfl
    | cons y l =>
      have : ltP (key r) (key y) := hs.1 _ (by simp)
      rw [rPlace, decide_eq_true (show cmpP (key r) y.s.snd < 0 from this)]
  | x :: l, k + 1, hs, h => by
    rw [List.map_cons, List.pairwise_cons] at hs
    have h : l[k]? = some r := h
    have hlt : ltP (key x) (key r) := hs.1 _ (List.mem_map.2 ⟨r, List.mem_of_getElem? h, rfl⟩)
    show rPlace (key r) (x :: l.eraseIdx k) 0 = k + 1
    rw [rPlace, decide_eq_false (show ¬ cmpP (key r) x.s.snd < 0 from ltP_not hlt)]
    dsimp only
    rw [rPlace_shift, place_back hs.2 h]
theorem erase_sorted {l : RTab} (k : Nat) (h : (l.map key).Pairwise ltP) : ((l.eraseIdx k).map key).Pairwise ltP := List.Pairwise.sublist ((List.eraseIdx_sublist l k).map key) h
theorem erase_ne {l : RTab} {k : Nat} {r : RefE} (h : (l.map key).Pairwise ltP) (hk : l[k]? = some r) : ∀ x ∈ l.eraseIdx k, key x ≠ key r := by
  intro x hx e
  have hp := (perm_erase hk).map key
  have hn : (l.map key).Nodup := h.imp fun h => ltP_ne h
  have := hp.nodup_iff.1 hn
  rw [List.map_cons, List.nodup_cons] at this
  exact this.1 (by rw [← e]; exact List.mem_map.2 ⟨x, hx, rfl⟩)
end Go.Proofs.Ytgdalboilghciaa

set_option maxRecDepth 100000
set_option linter.unusedSimpArgs false
set_option linter.unusedVariables false
namespace Go.Proofs.Ytgdalboilghciaa
open Go.Rx
def minR : RefE → RTab → RefE
  | a, [] => a
  | a, x :: r => match decide (lastT x.ts < lastT a.ts) with
    | true => minR x r
    | false => minR a r
theorem GoodR.last {N : Nat} {r : RefE} (h : GoodR N r) : 0 ≤ lastT r.ts ∧ lastT r.ts ≤ 4611686018427387904 := h.tm _ (lastT_mem h.pos)
theorem minE_R {N : Nat} {es : TabE} {rt : RTab} (h : Inv N es rt) : ∀ (l : RTab) (a : RefE), a ∈ rt → (∀ x ∈ l, x ∈ rt) → minE es (key a) (l.map key) = key (minR a l)
  | [], a, _, _ => rfl
  | x :: l, a, ha, hl => by
    have hx := hl x List.mem_cons_self
    have h1 := (h.good x hx).last
    have h2 := (h.good a ha).last
    rw [List.map_cons, minE, minR, h.last hx, h.last ha]
    dsimp only
    rw [wrap64_id (by omega) (by omega), show decide (lastT x.ts - lastT a.ts < 0) = decide (lastT x.ts < lastT a.ts) by rw [decide_eq_decide]; omega]
    cases decide (lastT x.ts < lastT a.ts) with
    | true => exact minE_R h l x hx fun y hy => hl y (List.mem_cons_of_mem _ hy)
    | false => exact minE_R h l a ha fun y hy => hl y (List.mem_cons_of_mem _ hy)
theorem roO_some {ev now : Int} {rt : RTab} : ∀ (l pre : RTab) (a : RefE) (ia : Nat), rt = pre ++ l → rt[ia]? = some a → ∃ k : Nat, roO ev now l (pre.length : Int) (some (a, (ia : Int))) = (k : Int) ∧ rt[k]? = some (minR a (l.filter (roC ev now)))
  | [], pre, a, ia, _, ha => ⟨ia, rfl, ha⟩
  | e :: l, pre, a, ia, hr, ha => by
    have hr' : rt = (pre ++ [e]) ++ l := by rw [hr, List.append_assoc]; rfl
    have hl : ((pre ++ [e]).length : Int) = (pre.length : Int) + 1 := by rw [List.length_append, List.length_singleton]; omega
    have he : rt[pre.length]? = some e := by rw [hr, List.getElem?_append_right (Nat.le_refl _), Nat.sub_self]; rfl
    rw [roO, List.filter_cons]
    cases hc : roC ev now e with
    | false =>
      obtain ⟨k, h1, h2⟩ := roO_some l (pre ++ [e]) a ia hr' ha
      rw [hl] at h1
      exact ⟨k, h1, h2⟩
    | true =>
      rw [if_pos rfl, minR]
      show ∃ k : Nat, (match true && decide (lastT e.ts < lastT a.ts) with | true => _ | false => _) = (k : Int) ∧ _
      rw [Bool.true_and]
      cases decide (lastT e.ts < lastT a.ts) with
      | true =>
        obtain ⟨k, h1, h2⟩ := roO_some (ev := ev) (now := now) l (pre ++ [e]) e pre.length hr' he
        rw [hl] at h1
        exact ⟨k, h1, h2⟩
      | false =>
        obtain ⟨k, h1, h2⟩ := roO_some (ev := ev) (now := now) l (pre ++ [e]) a ia hr' ha
        rw [hl] at h1
        exact ⟨k, h1, h2⟩
theorem roO_none {ev now : Int} {rt : RTab} : ∀ (l pre : RTab), rt = pre ++ l → match l.filter (roC ev now) with
    | [] => roO ev now l (pre.length : Int) none = -1
    | y :: ys => ∃ k : Nat, roO ev now l (pre.length : Int) none = (k : Int) ∧ rt[k]? = some (minR y ys)
  | [], pre, _ => rfl
  | e :: l, pre, hr => by
    have hr' : rt = (pre ++ [e]) ++ l := by rw [hr, List.append_assoc]; rfl
    have hl : ((pre ++ [e]).length : Int) = (pre.length : Int) + 1 := by rw [List.length_append, List.length_singleton]; omega
    have he : rt[pre.length]? = some e := by rw [hr, List.getElem?_append_right (Nat.le_refl _), Nat.sub_self]; rfl
    rw [roO, List.filter_cons]
    cases hc : roC ev now e with
    | false =>
      have := roO_none (ev := ev) (now := now) l (pre ++ [e]) hr'
      rw [hl] at this
      exact this
    | true =>
      rw [if_pos rfl]
      obtain ⟨k, h1, h2⟩ := roO_some (ev := ev) (now := now) l (pre ++ [e]) e pre.length hr' he
      rw [hl] at h1
      exact ⟨k, h1, h2⟩
theorem overL_eq {N : Nat} {es : TabE} {rt : RTab} (h : Inv N es rt) (ev now : Int) : overL isoL es (IntKind.i64.wrap (4 * ev)) now = (rt.filter (roC ev now)).map key := by
  unfold overL
  rw [h.iso, List.filter_map]
  congr 1
  refine List.filter_congr fun r hr => ?_
  show decide ((lastE (key r) es).2.1 ≤ _) = roC ev now r
  rw [h.last hr]
  rfl
/-- Who is over in the one is over in the other. -/
theorem Inv.over {N : Nat} {es : TabE} {rt : RTab} (h : Inv N es rt) (ev now : Int) :
    (ovB isoL es (IntKind.i64.wrap (4 * ev)) now = false ∧ roO ev now rt 0 none = -1) ∨
    (∃ (k : Nat) (r : RefE), ovB isoL es (IntKind.i64.wrap (4 * ev)) now = true ∧ roO ev now rt 0 none = (k : Int) ∧ rt[k]? = some r ∧ ovP isoL es (IntKind.i64.wrap (4 * ev)) now = key r) := by
  have hR := roO_none (ev := ev) (now := now) (rt := rt) rt [] rfl
  unfold ovB ovP
  rw [overL_eq h]
  cases hf : rt.filter (roC ev now) with
  | nil =>
    rw [hf] at hR
    exact .inl ⟨rfl, hR⟩
  | cons y ys =>
    rw [hf] at hR
    obtain ⟨k, h1, h2⟩ := hR
    have hm : ∀ x ∈ y :: ys, x ∈ rt := fun x hx => (List.mem_filter.1 (hf ▸ hx)).1
    exact .inr ⟨k, _, rfl, h1, h2, minE_R h ys y (hm y List.mem_cons_self) fun x hx => hm x (List.mem_cons_of_mem _ hx)⟩
theorem b2i_two (a b : Bool) : (b2i a + b2i b == 2) = (a && b) := by
  cases a <;> cases b <;> rfl
theorem b2i_one (a : Bool) : (b2i a == 2) = false := by
  cases a <;> rfl
theorem qC_rq {N : Nat} {es : TabE} {rt : RTab} (h : Inv N es rt) (ev now : Int) {r : RefE} (hr : r ∈ rt) : qC now (IntKind.i64.wrap (4 * ev)) (key r) es = rqC ev now r := by
  have hg := h.good r hr
  have hp := hg.pos
  rw [qC_at (e := (pairOf r).2) h.nodE (h.mem hr)]
  unfold pairOf rqC secT
  dsimp only
  cases hd : decide (2 ≤ r.ts.length) with
  | false =>
    simp only [decide_eq_false_iff_not] at hd
    rw [show (min (r.ts.length : Int) 2).toNat = 1 by omega]
    exact b2i_one _
  | true =>
    simp only [decide_eq_true_eq] at hd
    rw [show (min (r.ts.length : Int) 2).toNat = 2 by omega]
    show (b2i (inW now (IntKind.i64.wrap (4 * ev)) (lastT r.ts)) + b2i (inW now (IntKind.i64.wrap (4 * ev)) (r.ts.getD (r.ts.length - 2) 0)) == 2) = _
    rw [b2i_two]
    unfold rqW inW
    cases decide (lastT r.ts ≤ now) <;> cases decide (r.ts.getD (r.ts.length - 2) 0 ≤ now) <;> cases decide (lastT r.ts > IntKind.i64.wrap (now - IntKind.i64.wrap (4 * ev))) <;>
      cases decide (r.ts.getD (r.ts.length - 2) 0 > IntKind.i64.wrap (now - IntKind.i64.wrap (4 * ev))) <;> rfl
/-- Who was heard often: the same rows. -/
theorem Inv.qual {N : Nat} {es : TabE} {rt : RTab} (h : Inv N es rt) (ev now : Int) : quF now (IntKind.i64.wrap (4 * ev)) es (isoL (es.map (·.1))) = rqF ev now rt := by
  unfold quF rqF
  rw [h.iso, List.filter_map, List.map_map, show rt.filter ((fun x => qC now (IntKind.i64.wrap (4 * ev)) x es) ∘ key) = rt.filter (rqC ev now) from List.filter_congr fun r hr => qC_rq h ev now hr]
  refine List.map_congr_left fun r hr => ?_
  show (lastE (key r) es).1 = r.s
  rw [h.last (List.mem_filter.1 hr).1]
theorem getD_snoc {ts : List Int} {x : Int} : (ts ++ [x]).getD ts.length 0 = x := by
  rw [List.getD_eq_getElem?_getD, List.getElem?_append_right (Nat.le_refl _), Nat.sub_self]
  rfl
theorem reE_eq {N : Nat} {r : RefE} (h : GoodR N r) (s : Ste) (now : Int) : reE s now r = ⟨s, r.ts ++ [now], r.ts.length + 1, none⟩ := by
  have hY : reY r = r.ts := by
    unfold reY
    rw [List.drop_zero, h.len, List.take_length]
  have hZ : reZ now r = r.ts ++ [now] := by
    unfold reZ
    rw [hY, List.drop_zero, List.take_length]
  unfold reE
  rw [hZ, List.length_append, List.length_singleton]
theorem lastT_snoc (ts : List Int) (x : Int) : lastT (ts ++ [x]) = x := by
  unfold lastT
  rw [List.length_append, List.length_singleton, Nat.add_sub_cancel]
  exact getD_snoc
theorem secT_snoc {ts : List Int} (h : 1 ≤ ts.length) (x : Int) : secT (ts ++ [x]) = lastT ts := by
  unfold secT lastT
  rw [List.length_append, List.length_singleton, decide_eq_true (show 2 ≤ ts.length + 1 by omega)]
  dsimp only
  rw [show ts.length + 1 - 2 = ts.length - 1 by omega, List.getD_eq_getElem?_getD, List.getElem?_append_left (by omega), ← List.getD_eq_getElem?_getD]
theorem pair_heard {N : Nat} {r : RefE} (h : GoodR N r) (s : Ste) (now : Int) : pairOf (reE s now r) = (s.snd, heardE s now (pairOf r).2) := by
  have hp := h.pos
  rw [reE_eq h]
  unfold pairOf heardE
  dsimp only
  rw [lastT_snoc, secT_snoc hp, List.length_append, List.length_singleton, wrap64_id (by omega) (by omega)]
  rw [show min ((r.ts.length + 1 : Nat) : Int) 2 = min (min (r.ts.length : Int) 2 + 1) 2 by omega]
theorem good_heard {N : Nat} {r : RefE} (h : GoodR N r) {own : Ck} {s : Ste} {now : Int} (hb : badB own s now = false) : GoodR (N + 1) (reE s now r) := by
  unfold badB at hb
  simp only [Bool.or_eq_false_iff, decide_eq_false_iff_not] at hb
  have h3 := h.le
  rw [reE_eq h]
  refine ⟨by simp, by simp, by simp; exact h3, ?_⟩
  intro t ht
  rcases List.mem_append.1 ht with ht | ht
  · exact h.tm t ht
  · rw [List.mem_singleton.1 ht]
    omega
theorem good_new {N : Nat} {own : Ck} {s : Ste} {now : Int} (hb : badB own s now = false) : GoodR (N + 1) (nwE s now) := by
  unfold badB at hb
  simp only [Bool.or_eq_false_iff, decide_eq_false_iff_not] at hb
  refine ⟨rfl, by show 1 ≤ 1; omega, by show 1 ≤ N + 1; omega, ?_⟩
  intro t ht
  have ht : t ∈ [now] := ht
  rw [List.mem_singleton.1 ht]
  omega
theorem GoodR.mono {N : Nat} {r : RefE} (h : GoodR N r) : GoodR (N + 1) r := ⟨h.len, h.pos, Nat.le_succ_of_le h.le, h.tm⟩
theorem Inv.mono {N : Nat} {es : TabE} {rt : RTab} (h : Inv N es rt) : Inv (N + 1) es rt := ⟨h.perm, h.srt, fun r hr => (h.good r hr).mono⟩
theorem Inv.erase {N : Nat} {es : TabE} {rt : RTab} (h : Inv N es rt) {i k : Nat} {r : RefE} (hi : es[i]? = some (pairOf r)) (hk : rt[k]? = some r) : Inv N (es.eraseIdx i) (rt.eraseIdx k) :=
  ⟨erase_perm h.perm hi hk, erase_sorted k h.srt, fun x hx => h.good x (List.mem_of_mem_eraseIdx hx)⟩
/-- One more entry. -/
theorem Inv.ins {N : Nat} {es es' : TabE} {rt : RTab} (h : Inv N es rt) {r : RefE} (hp : es'.Perm (pairOf r :: es)) (hg : GoodR (N + 1) r) (hn : ∀ x ∈ rt, key x ≠ key r) : Inv (N + 1) es' (rt.insertIdx (rPlace (key r) rt 0) r) := by
  have hle := (rPlace_le (key r) rt 0).2
  have hq := List.perm_insertIdx r rt (i := rPlace (key r) rt 0) (by omega)
  refine ⟨?_, ins_sorted h.srt hn, fun x hx => ?_⟩
  · exact hp.trans ((h.perm.cons _).trans (hq.map pairOf).symm)
  · rcases List.mem_cons.1 (hq.mem_iff.1 hx) with rfl | hx
    · exact hg
    · exact (h.good x hx).mono
def okUR (n : Nat) : Up → RUp → Prop
  | .keep, .keep => True
  | .same, .keep => True
  | .clear, .clear => True
  | .set i _, .ins (some k) j _ => i < n ∧ k < n ∧ j = k
  | .drop i, .drop k => i < n ∧ k < n
  | .app _ _, .ins none j _ => n < 5 ∧ j ≤ n
  | .evi i _ _, .ins (some k) j _ => n = 5 ∧ i < n ∧ k < n ∧ j < n
  | _, _ => False
/-- What a call does to both. -/
def StepOK (N : Nat) (es : TabE) (rt : RTab) (u : Up × Int) (r : RUp × Int) : Prop := u.2 = r.2 ∧ okUR es.length u.1 r.1 ∧ Inv (N + 1) (u.1.tab es) (r.1.tab rt)
theorem getD_of {α : Type} [Inhabited α] {l : List α} {i : Nat} {x : α} (h : l[i]? = some x) : l.getD i default = x := by
  rw [List.getD_eq_getElem?_getD, h]
  rfl
theorem step_hear {N : Nat} {es : TabE} {rt : RTab} (h : Inv N es rt) (hn : es.length ≤ 5) (own : Ck) (ev : Int) (s : Ste) (now : Int) (o : Opp) (ho : o.k == 0) (hos : o.s = s) (hon : o.now = now) : StepOK N es rt (doU isoL own (IntKind.i64.wrap (4 * ev)) es o) (rHear own ev rt s now) := by
  have hl := h.len
  unfold doU rHear
  rw [ho, hos, hon]
  dsimp only
  cases hb : badB own s now with
  | true => exact ⟨rfl, trivial, h.mono⟩
  | false =>
    dsimp only
    rcases h.find s.snd with ⟨i, k, r, hf, hg, hi, hk, hei, hrk, hkey⟩ | ⟨hf, hg, hno⟩
    · rw [hf, hg]
      dsimp only
      rw [getD_of hei, getD_of hrk]
      have hgr := h.good r (List.mem_of_getElem? hrk)
      show StepOK N es rt (match decide (lastT r.ts > now) with | true => _ | false => _) (match decide (lastT r.ts > now) with | true => _ | false => _)
      cases decide (lastT r.ts > now) with
      | true => exact ⟨rfl, trivial, h.mono⟩
      | false =>
        dsimp only
        have hpl : rPlace s.snd (rt.eraseIdx k) 0 = k := by
          rw [← hkey]
          exact place_back h.srt hrk
        refine ⟨rfl, ⟨hi, by show k < es.length; omega, hpl⟩, ?_⟩
        have hE := h.erase hei hrk
        have hp : (es.set i ((pairOf r).1, heardE s now (pairOf r).2)).Perm (pairOf (reE s now r) :: es.eraseIdx i) := by
          rw [pair_heard hgr]
          have : (pairOf r).1 = s.snd := hkey
          rw [this]
          exact set_perm hi
        have hI := hE.ins (r := reE s now r) hp (good_heard hgr hb) fun x hx => by
          have := erase_ne h.srt hrk x hx
          rw [hkey] at this
          exact this
        show Inv (N + 1) (es.set i ((es.getD i default).1, heardE s now (pairOf r).2)) ((rt.eraseIdx k).insertIdx (rPlace s.snd (rt.eraseIdx k) 0) (reE s now r))
        rw [getD_of hei]
        exact hI
    · rw [hf, hg, ← hl]
      dsimp only
      cases hb5 : Nat.ble 5 es.length with
      | false =>
        have h5 : es.length < 5 := by
          rcases Nat.lt_or_ge es.length 5 with h | h
          · exact h
          · rw [Nat.ble_eq.mpr h] at hb5; cases hb5
        have hj := (rPlace_le s.snd rt 0).2
        refine ⟨rfl, ⟨h5, by omega⟩, ?_⟩
        have hp : (es ++ [(s.snd, newE s now)]).Perm (pairOf (nwE s now) :: es) := List.perm_append_singleton _ _
        exact h.ins (r := nwE s now) hp (good_new hb) hno
      | true =>
        have h5 : es.length = 5 := by
          have := Nat.le_of_ble_eq_true hb5
          omega
        dsimp only
        rcases h.over ev now with ⟨h1, h2⟩ | ⟨k, r, h1, h2, hrk, hov⟩
        · rw [h1, h2]
          exact ⟨rfl, trivial, h.mono⟩
        · rw [h1, h2, decide_eq_false (show ¬ (k : Int) < 0 by omega), Int.toNat_natCast, hov]
          dsimp only
          rcases h.find (key r) with ⟨i, k', r', hf', hg', hi, hk', hei, hrk', hkey⟩ | ⟨_, _, hno'⟩
          · have hrr : r' = r := key_inj h.nodR (List.mem_of_getElem? hrk') (List.mem_of_getElem? hrk) hkey
            subst hrr
            rw [hf']
            dsimp only
            have hkl : k < rt.length := (List.getElem?_eq_some_iff.1 hrk).1
            have hj := (rPlace_le s.snd (rt.eraseIdx k) 0).2
            rw [List.length_eraseIdx_of_lt hkl] at hj
            refine ⟨rfl, ⟨h5, hi, by show k < es.length; omega, by show _ < es.length; omega⟩, ?_⟩
            have hE := h.erase hei hrk
            have hp : (es.eraseIdx i ++ [(s.snd, newE s now)]).Perm (pairOf (nwE s now) :: es.eraseIdx i) := List.perm_append_singleton _ _
            exact hE.ins (r := nwE s now) hp (good_new hb) fun x hx => hno x (List.mem_of_mem_eraseIdx hx)
          · exact absurd rfl (hno' r (List.mem_of_getElem? hrk))
theorem step {N : Nat} {es : TabE} {rt : RTab} (h : Inv N es rt) (hn : es.length ≤ 5) (own : Ck) (ev : Int) (o : Opp) : StepOK N es rt (doU isoL own (IntKind.i64.wrap (4 * ev)) es o) (rDo own ev rt o) := by
  cases h0 : o.k == 0 with
  | true =>
    have : rDo own ev rt o = rHear own ev rt o.s o.now := by
      unfold rDo
      rw [h0]
    rw [this]
    exact step_hear h hn own ev o.s o.now o h0 rfl rfl
  | false =>
    unfold doU rDo
    rw [h0]
    dsimp only
    cases o.k == 1 with
    | true =>
      dsimp only
      rcases h.find o.s.snd with ⟨i, k, r, hf, hg, hi, hk, hei, hrk, hkey⟩ | ⟨hf, hg, hno⟩
      · rw [hf, hg]
        have hl := h.len
        exact ⟨rfl, ⟨hi, by show k < es.length; omega⟩, (h.erase hei hrk).mono⟩
      · rw [hf, hg]
        exact ⟨rfl, trivial, h.mono⟩
    | false =>
      dsimp only
      cases o.k == 2 with
      | true => exact ⟨rfl, trivial, ⟨List.Perm.nil, List.Pairwise.nil, fun r hr => by cases hr⟩⟩
      | false => exact ⟨rfl, trivial, h.mono⟩
theorem Inv.okT {N : Nat} {es : TabE} {rt : RTab} (h : Inv N es rt) (hN : N ≤ 1000000) : okT rt := by
  intro r hr
  have hg := h.good r hr
  have := hg.le
  have := hg.pos
  unfold okE
  rw [hg.len, decide_eq_true (show 1 ≤ r.ts.length by omega), decide_eq_true (show r.ts.length ≤ 1000000 by omega), decide_eq_true rfl]
  rfl
theorem Inv.agr {N : Nat} {es : TabE} {rt : RTab} (h : Inv N es rt) (hN : N ≤ 1000000) : ∀ r ∈ rt, agrE es r := fun r hr => ⟨h.okT hN r hr, h.last hr⟩
end Go.Proofs.Ytgdalboilghciaa
