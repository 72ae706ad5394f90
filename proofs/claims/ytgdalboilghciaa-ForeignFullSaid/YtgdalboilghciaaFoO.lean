/- Layer 8: a call on a table, told as one of seven; rounds of ForeignFull; the law of a full table that keeps all others out, as a function. The conditions stand in the specification; the row meets them. -/
import Derived.Test.YtgdalboilghciaaFoE
import Derived.Test.YtgdalboilghciaaRxD
import Derived.Test.YtgdalboilghciaaFoF
set_option linter.unusedSimpArgs false
set_option linter.unusedVariables false
set_option linter.unnecessarySimpa false
set_option linter.unusedSectionVars false
set_option maxRecDepth 100000
set_option linter.unusedSimpArgs false
set_option linter.unusedVariables false
namespace Go.Proofs.Ytgdalboilghciaa
open Go.Rx
inductive Up where
  | keep
  | same
  | set (i : Nat) (e : Ent)
  | app (p : Prt) (e : Ent)
  | evi (i : Nat) (p : Prt) (e : Ent)
  | drop (i : Nat)
  | clear
def Up.res (es : TabE) (t : Int) : Up → Res
  | .keep => ⟨.int .i64 t, noneU es.length, []⟩
  | .same => ⟨.int .i64 t, kvU es.length (keysB es) (ptrsF 2 es.length), []⟩
  | .set i e => ⟨.int .i64 t, entU es.length i e, []⟩
  | .app p e => ⟨.int .i64 t, kvU es.length (keysB es ++ [p.v]) (ptrsF 2 es.length ++ [.ptr (es.length + 2) 0 0 0]), [.cells e.vs]⟩
  | .evi i p e => ⟨.int .i64 t, kvU es.length ((keysB es).eraseIdx i ++ [p.v]) ((ptrsF 2 es.length).eraseIdx i ++ [.ptr (es.length + 2) 0 0 0]), [.cells e.vs]⟩
  | .drop i => ⟨.int .i64 t, kvU es.length ((keysB es).eraseIdx i) ((ptrsF 2 es.length).eraseIdx i), []⟩
  | .clear => ⟨.int .i64 t, kvU es.length [] [], []⟩
def Up.tab (es : TabE) : Up → TabE
  | .keep => es
  | .same => es
  | .set i e => es.set i ((es.getD i default).1, e)
  | .app p e => es ++ [(p, e)]
  | .evi i p e => es.eraseIdx i ++ [(p, e)]
  | .drop i => es.eraseIdx i
  | .clear => []
/-- What is written of the blocks from the map on (block k): the map, the entries; what is new. -/
def Up.upd (k : Nat) (es : TabE) : Up → List (Option (Option Blk))
  | .keep => List.replicate (es.length + 1) none
  | .same => some (some (.kv (keysB es) (ptrsF (k + 1) es.length))) :: List.replicate es.length none
  | .set i e => none :: (List.replicate es.length none).set i (some (some (.cells e.vs)))
  | .app p e => some (some (.kv (keysB es ++ [p.v]) (ptrsF (k + 1) es.length ++ [.ptr (es.length + k + 1) 0 0 0]))) :: List.replicate es.length none
  | .evi i p e => some (some (.kv ((keysB es).eraseIdx i ++ [p.v]) ((ptrsF (k + 1) es.length).eraseIdx i ++ [.ptr (es.length + k + 1) 0 0 0]))) :: List.replicate es.length none
  | .drop i => some (some (.kv ((keysB es).eraseIdx i) ((ptrsF (k + 1) es.length).eraseIdx i))) :: List.replicate es.length none
  | .clear => some (some (.kv [] [])) :: List.replicate es.length none
def Up.news : Up → List Blk
  | .app _ e => [.cells e.vs]
  | .evi _ _ e => [.cells e.vs]
  | _ => []
def Up.okU (n : Nat) : Up → Prop
  | .set i _ => i < n
  | .app _ _ => n < 5
  | .evi i _ _ => i < n
  | .drop i => i < n
  | _ => True
def findI (p : Prt) : TabE → Nat → Option Nat
  | [], _ => none
  | e :: r, k => match p.eqB e.1 with
    | true => some k
    | false => findI p r (k + 1)
theorem chain_den (p : Prt) (f : Nat → Tree Res) (z : Tree Res) : ∀ (es : TabE) (k : Nat), (chainE p es k f z).denN = match findI p es k with | some i => (f i).denN | none => z.denN
  | [], k => rfl
  | e :: r, k => by
    rw [chainE, denN_ite, findI]
    cases p.eqB e.1 with
    | true => rfl
    | false => exact chain_den p f z r (k + 1)
theorem find_some {p : Prt} : ∀ {es : TabE} {k i : Nat}, findI p es k = some i → k ≤ i ∧ i < k + es.length ∧ ∃ e, es[i - k]? = some (p, e)
  | [], k, i, h => by cases h
  | e :: r, k, i, h => by
    rw [findI] at h
    split at h
    · rename_i he
      cases h
      refine ⟨Nat.le_refl _, by simp, e.2, ?_⟩
      rw [Nat.sub_self]
      have := Prt.eqB_iff.1 he
      rw [this]
      rfl
    · obtain ⟨h1, h2, y, h3⟩ := find_some h
      refine ⟨by omega, by simp; omega, y, ?_⟩
      rw [show i - k = (i - (k + 1)) + 1 by omega]
      simpa using h3
theorem find_none {p : Prt} : ∀ {es : TabE} {k : Nat}, findI p es k = none → ∀ x ∈ es, x.1 ≠ p
  | [], k, h, x, hx => by simp at hx
  | e :: r, k, h, x, hx => by
    rw [findI] at h
    split at h
    · cases h
    · rename_i he
      rcases List.mem_cons.1 hx with rfl | hx
      · intro e2
        rw [← e2, Prt.eqB_self] at he
        cases he
      · exact find_none h x hx
def doU (srt : List Prt → List Prt) (own : Ck) (win : Int) (es : TabE) (o : Opp) : Up × Int :=
  match o.k == 0 with
  | true => match badB own o.s o.now with
    | true => (.keep, 0)
    | false => match findI o.s.snd es 0 with
      | some i => match decide ((es.getD i default).2.t0 > o.now) with
        | true => (.keep, 0)
        | false => (.set i (heardE o.s o.now (es.getD i default).2), 1)
      | none => match Nat.ble 5 es.length with
        | false => (.app o.s.snd (newE o.s o.now), 2)
        | true => match ovB srt es win o.now with
          | true => match findI (ovP srt es win o.now) es 0 with
            | some i => (.evi i o.s.snd (newE o.s o.now), 3)
            | none => (.keep, 5)
          | false => (.keep, 4)
  | false => match o.k == 1 with
    | true => match findI o.s.snd es 0 with
      | some i => (.drop i, 1)
      | none => (.same, 0)
    | false => match o.k == 2 with
      | true => (.clear, 0)
      | false => (.keep, 0)
theorem isPtrs_F : ∀ (n k : Nat), isPtrs k (ptrsF k n) = true
  | 0, k => rfl
  | n + 1, k => by
    show (Nat.beq k k && Nat.beq 0 0 && Nat.beq 0 0 && Nat.beq 0 0 && isPtrs (k + 1) (ptrsF (k + 1) n)) = true
    rw [isPtrs_F n (k + 1), Nat.beq_refl]
    rfl
theorem ptrsF_len : ∀ (n k : Nat), (ptrsF k n).length = n
  | 0, k => rfl
  | n + 1, k => by
    show (ptrsF (k + 1) n).length + 1 = _
    rw [ptrsF_len n (k + 1)]
theorem entsP_map : ∀ es : TabE, entsP (es.map fun x => x.1.v) (es.map fun x => Body.cells x.2.vs) = some es
  | [] => rfl
  | e :: r => by
    show (match Prt.of e.1.v, Ent.of e.2.vs, entsP (r.map fun x => x.1.v) (r.map fun x => Body.cells x.2.vs) with
      | some p, some e, some r => some ((p, e) :: r)
      | _, _, _ => none) = _
    rw [entsP_map r]
    rfl
theorem tabP_tabB (own : Ck) (win : Int) (es : TabE) : tabP (tabB own win es) = some (own, win, es) := by
  show (match isPtrs 2 (ptrsF 2 es.length) && Nat.beq (ptrsF 2 es.length).length (es.map fun x => x.1.v).length, entsP (es.map fun x => x.1.v) (es.map fun x => Body.cells x.2.vs) with
      | true, some es => some (own, win, es)
      | _, _ => none) = _
  rw [isPtrs_F, ptrsF_len, List.length_map, Nat.beq_refl, entsP_map]
  rfl
theorem minE_mem (es : TabE) : ∀ (l : List Prt) (m : Prt), minE es m l ∈ m :: l
  | [], m => by simp [minE]
  | x :: r, m => by
    rw [minE]
    split
    · have := minE_mem es r x
      simp only [List.mem_cons] at this ⊢
      exact .inr this
    · have := minE_mem es r m
      simp only [List.mem_cons] at this ⊢
      rcases this with h | h
      · exact .inl h
      · exact .inr (.inr h)
theorem ovP_mem {srt : List Prt → List Prt} (hsrt : ∀ l, srt l = isoL l) {es : TabE} {win now : Int} (h : ovB srt es win now = true) : ovP srt es win now ∈ es.map (·.1) := by
  have hp : (srt (es.map (·.1))).Perm (es.map (·.1)) := by rw [hsrt]; exact isoL_perm _
  unfold ovP
  unfold ovB at h
  cases hF : overL srt es win now with
  | nil => rw [hF] at h; cases h
  | cons y l =>
    have hy : minE es y l ∈ overL srt es win now := by rw [hF]; exact minE_mem es l y
    exact hp.mem_iff.1 (List.mem_filter.1 hy).1
theorem doU_ok {srt : List Prt → List Prt} (hsrt : ∀ l, srt l = isoL l) (own : Ck) (win : Int) (es : TabE) (o : Opp) (hn : es.length ≤ 5) :
    ((doS srt) [.ptr 0 0 0 0, o.v] (tabB own win es)).denN = some (Res.nrm ((doU srt own win es o).1.res es (doU srt own win es o).2)) := by
  have e0 : (doS srt) [.ptr 0 0 0 0, o.v] (tabB own win es) = Tree.lit (Nat.ble es.length 5) (doR srt own win es o) := by
    unfold doS
    simp only [tabP_tabB]
    rfl
  rw [e0, Nat.ble_eq.mpr hn]
  show (doR srt own win es o).denN = _
  unfold doR doU heR
  simp only [denN_ite, chain_den, denN_leaf]
  cases o.k == 0 with
  | true =>
    cases badB own o.s o.now with
    | true => rfl
    | false =>
      dsimp only
      cases findI o.s.snd es 0 with
      | some i =>
        dsimp only
        cases decide ((es.getD i default).2.t0 > o.now) <;> rfl
      | none =>
        dsimp only
        cases Nat.ble 5 es.length with
        | false => rfl
        | true =>
          dsimp only
          rw [denN_ite, chain_den]
          cases hov : ovB srt es win o.now with
          | false => rfl
          | true =>
            cases hf : findI (ovP srt es win o.now) es 0 with
            | some i => rfl
            | none =>
              have := ovP_mem hsrt hov
              rw [List.mem_map] at this
              obtain ⟨x, hx, he⟩ := this
              exact absurd he (find_none hf x hx)
  | false =>
    cases o.k == 1 with
    | true =>
      show (match findI o.s.snd es 0 with | some i => _ | none => _) = _
      cases findI o.s.snd es 0 <;> rfl
    | false =>
      cases o.k == 2 <;> rfl
theorem doU_okU {srt : List Prt → List Prt} (own : Ck) (win : Int) (es : TabE) (o : Opp) (hn : es.length ≤ 5) : (doU srt own win es o).1.okU es.length ∧ ((doU srt own win es o).1.tab es).length ≤ 5 := by
  unfold doU
  cases o.k == 0 with
  | true =>
    cases badB own o.s o.now with
    | true => exact ⟨trivial, hn⟩
    | false =>
      cases hf : findI o.s.snd es 0 with
      | some i =>
        obtain ⟨_, h2, _⟩ := find_some hf
        dsimp only
        cases decide ((es.getD i default).2.t0 > o.now) with
        | true => exact ⟨trivial, hn⟩
        | false => exact ⟨by show i < es.length; omega, by show (es.set i _).length ≤ 5; rw [List.length_set]; exact hn⟩
      | none =>
        dsimp only
        cases hb : Nat.ble 5 es.length with
        | false =>
          have : es.length < 5 := by
            rcases Nat.lt_or_ge es.length 5 with h | h
            · exact h
            · rw [Nat.ble_eq.mpr h] at hb; cases hb
          exact ⟨this, by show (es ++ [_]).length ≤ 5; rw [List.length_append, List.length_singleton]; omega⟩
        | true =>
          cases ovB srt es win o.now with
          | false => exact ⟨trivial, hn⟩
          | true =>
            cases hg : findI (ovP srt es win o.now) es 0 with
            | none => exact ⟨trivial, hn⟩
            | some i =>
              obtain ⟨_, h2, _⟩ := find_some hg
              refine ⟨by show i < es.length; omega, ?_⟩
              show (es.eraseIdx i ++ [_]).length ≤ 5
              rw [List.length_append, List.length_singleton, List.length_eraseIdx_of_lt (by omega)]
              omega
  | false =>
    cases o.k == 1 with
    | true =>
      cases hf : findI o.s.snd es 0 with
      | none => exact ⟨trivial, hn⟩
      | some i =>
        obtain ⟨_, h2, _⟩ := find_some hf
        refine ⟨by show i < es.length; omega, ?_⟩
        show (es.eraseIdx i).length ≤ 5
        rw [List.length_eraseIdx_of_lt (by omega)]
        omega
    | false =>
      cases o.k == 2 with
      | true => exact ⟨trivial, Nat.zero_le _⟩
      | false => exact ⟨trivial, hn⟩
end Go.Proofs.Ytgdalboilghciaa

set_option maxRecDepth 100000
set_option linter.unusedSimpArgs false
set_option linter.unusedVariables false
namespace Go.Proofs.Ytgdalboilghciaa
open Go.Rx
def fk (k : Int) : Prt := ⟨⟨200, k, 0, 0, 0, 0, 0, 0⟩, 1⟩
def fs (p : Prt) : Ste := ⟨0, 0, ⟨0, 0, 0⟩, ⟨0, 0, 0, 0, 0, 0, 0, 0⟩, 0, p, ⟨⟨0, 0, 0, 0, 0, 0, 0, 0⟩, 0⟩⟩
def sndIs (a : List V) (p : Prt) : Bool := match a with
  | [_, q, _] => match Ste.of q with
    | some s => s.snd.eqB p
    | none => false
  | _ => false
noncomputable def orN (g : Bool) (A : List V) (B : List Blk) (R : Res) : Rx.Spec := fun a b => .need g (orS A B R a b)
noncomputable def orM : List (Bool × Prt × List V × List Blk × Res) → Rx.Spec
  | [], _, _ => .fail
  | x :: l, a, b => match sndIs a x.2.1 with
    | true => orN x.1 x.2.2.1 x.2.2.2.1 x.2.2.2.2 a b
    | false => orM l a b
abbrev fuA (p : Prt) (now : Int) : List V := [.ptr 0 0 0 0, (fs p).v, .int .i64 now]
abbrev fuV (rounds r : Int) : List V := [.ptr 0 0 0 0, .ptr 1 0 0 0, .ptr 2 0 0 0, .int .i64 rounds, .int .i64 r]
abbrev fuB (ow : Ck) (ev : Int) (more : Prt) (own : Ck) (win : Int) (es : TabE) : List Blk := Body.cells (ow.vs ++ [.int .i64 ev]) :: Body.cells more.vs :: tabK 2 own win es
noncomputable abbrev fuI (G : List (Nat × Rx.Spec)) : LSpec := fUnroll P (specsOf G) (loopsOf []) Try.f4 (loopAt Try.f4 1) 6
/-- The first round: five that are new. -/
noncomputable abbrev fu0L (g0 g1 g2 g3 g4 : Bool) (own : Ck) (win now : Int) (f0 f1 f2 f3 f4 : Ent) : List (Bool × Prt × List V × List Blk × Res) :=
  [(g0, fk 0, fuA (fk 0) now, tabB own win [], Up.res [] 2 (.app (fk 0) f0)),
   (g1, fk 1, fuA (fk 1) now, tabB own win [(fk 0, f0)], Up.res [(fk 0, f0)] 2 (.app (fk 1) f1)),
   (g2, fk 2, fuA (fk 2) now, tabB own win [(fk 0, f0), (fk 1, f1)], Up.res [(fk 0, f0), (fk 1, f1)] 2 (.app (fk 2) f2)),
   (g3, fk 3, fuA (fk 3) now, tabB own win [(fk 0, f0), (fk 1, f1), (fk 2, f2)], Up.res [(fk 0, f0), (fk 1, f1), (fk 2, f2)] 2 (.app (fk 3) f3)),
   (g4, fk 4, fuA (fk 4) now, tabB own win [(fk 0, f0), (fk 1, f1), (fk 2, f2), (fk 3, f3)], Up.res [(fk 0, f0), (fk 1, f1), (fk 2, f2), (fk 3, f3)] 2 (.app (fk 4) f4))]
noncomputable abbrev fu0G (g0 g1 g2 g3 g4 : Bool) (own : Ck) (win now : Int) (f0 f1 f2 f3 f4 : Ent) : List (Nat × Rx.Spec) := [(11, orM (fu0L g0 g1 g2 g3 g4 own win now f0 f1 f2 f3 f4)), (10, alS)]
/-- What lies behind the first five: another one. -/
noncomputable abbrev fuG (g : Bool) (own : Ck) (win now : Int) (more : Prt) (es : TabE) : List (Nat × Rx.Spec) := [(11, orN g (fuA more now) (tabB own win es) (Up.res es 4 .keep)), (13, leS)]
noncomputable abbrev fuRd (G : List (Nat × Rx.Spec)) (Λ : LSpec) (vals : List V) (bs : List Blk) : Tree LRes := evRound P (specsOf G) (loopsOf [(8, Λ)]) 94 [3, 4, 7, 40, 41] [6] (loopAt Try.f4 0) vals bs
/-- The other rounds: five that are heard again. -/
noncomputable abbrev fu1L (g0 g1 g2 g3 g4 : Bool) (own : Ck) (win now : Int) (e0 e1 e2 e3 e4 : Ent) (f0 f1 f2 f3 f4 : Ent) : List (Bool × Prt × List V × List Blk × Res) :=
  [(g0, fk 0, fuA (fk 0) now, tabB own win [(fk 0, e0), (fk 1, e1), (fk 2, e2), (fk 3, e3), (fk 4, e4)], Up.res [(fk 0, e0), (fk 1, e1), (fk 2, e2), (fk 3, e3), (fk 4, e4)] 1 (.set 0 f0)),
   (g1, fk 1, fuA (fk 1) now, tabB own win [(fk 0, f0), (fk 1, e1), (fk 2, e2), (fk 3, e3), (fk 4, e4)], Up.res [(fk 0, f0), (fk 1, e1), (fk 2, e2), (fk 3, e3), (fk 4, e4)] 1 (.set 1 f1)),
   (g2, fk 2, fuA (fk 2) now, tabB own win [(fk 0, f0), (fk 1, f1), (fk 2, e2), (fk 3, e3), (fk 4, e4)], Up.res [(fk 0, f0), (fk 1, f1), (fk 2, e2), (fk 3, e3), (fk 4, e4)] 1 (.set 2 f2)),
   (g3, fk 3, fuA (fk 3) now, tabB own win [(fk 0, f0), (fk 1, f1), (fk 2, f2), (fk 3, e3), (fk 4, e4)], Up.res [(fk 0, f0), (fk 1, f1), (fk 2, f2), (fk 3, e3), (fk 4, e4)] 1 (.set 3 f3)),
   (g4, fk 4, fuA (fk 4) now, tabB own win [(fk 0, f0), (fk 1, f1), (fk 2, f2), (fk 3, f3), (fk 4, e4)], Up.res [(fk 0, f0), (fk 1, f1), (fk 2, f2), (fk 3, f3), (fk 4, e4)] 1 (.set 4 f4))]
noncomputable abbrev fu1G (g0 g1 g2 g3 g4 : Bool) (own : Ck) (win now : Int) (e0 e1 e2 e3 e4 : Ent) (f0 f1 f2 f3 f4 : Ent) : List (Nat × Rx.Spec) := [(11, orM (fu1L g0 g1 g2 g3 g4 own win now e0 e1 e2 e3 e4 f0 f1 f2 f3 f4)), (10, alS)]
noncomputable def fuE (ow : Ck) (more : Prt) (k : Int) (g q : Bool) (R : LRes) (next : Tree LRes) : Tree LRes :=
  .ite ((fk k).c.eqB ow) (.leaf R) (.ite ((fk k).eqB more) (.leaf R) (.ite (more.c.eqB ow) (.leaf R) (.ite g (.ite q next .fail) .fail)))
def fu0R (e : Ex) (vs : List V) (es : TabE) : LRes := ⟨e, vs, [none, none, none, some (some (.kv (keysB es) (ptrsF 4 es.length)))], es.map fun x => Body.cells x.2.vs⟩
def fu1R (e : Ex) (vs : List V) (fs : List (Option Ent)) : LRes := ⟨e, vs, none :: none :: none :: none :: fs.map (fun x => x.map fun y => some (.cells y.vs)), []⟩
noncomputable def fu0T (g0 g1 g2 g3 g4 g : Bool) (ow : Ck) (more : Prt) (own : Ck) (win now rounds : Int) (f0 f1 f2 f3 f4 : Ent) : Tree LRes :=
  .ite (decide (0 < rounds)) (fuE ow more 0 g0 (eqAB (fuA (fk 0) now) (fuA (fk 0) now) (tabB own win []) (tabB own win [])) ⟨.ret, [.tru], [none, none, none, none], []⟩ (fuE ow more 1 g1 (eqAB (fuA (fk 1) now) (fuA (fk 1) now) (tabB own win [(fk 0, f0)]) (tabB own win [(fk 0, f0)])) (fu0R .ret [.tru] [(fk 0, f0)]) (fuE ow more 2 g2 (eqAB (fuA (fk 2) now) (fuA (fk 2) now) (tabB own win [(fk 0, f0), (fk 1, f1)]) (tabB own win [(fk 0, f0), (fk 1, f1)])) (fu0R .ret [.tru] [(fk 0, f0), (fk 1, f1)]) (fuE ow more 3 g3 (eqAB (fuA (fk 3) now) (fuA (fk 3) now) (tabB own win [(fk 0, f0), (fk 1, f1), (fk 2, f2)]) (tabB own win [(fk 0, f0), (fk 1, f1), (fk 2, f2)])) (fu0R .ret [.tru] [(fk 0, f0), (fk 1, f1), (fk 2, f2)]) (fuE ow more 4 g4 (eqAB (fuA (fk 4) now) (fuA (fk 4) now) (tabB own win [(fk 0, f0), (fk 1, f1), (fk 2, f2), (fk 3, f3)]) (tabB own win [(fk 0, f0), (fk 1, f1), (fk 2, f2), (fk 3, f3)])) (fu0R .ret [.tru] [(fk 0, f0), (fk 1, f1), (fk 2, f2), (fk 3, f3)]) (.ite g (.ite (eqAB (fuA more now) (fuA more now) (tabB own win [(fk 0, f0), (fk 1, f1), (fk 2, f2), (fk 3, f3), (fk 4, f4)]) (tabB own win [(fk 0, f0), (fk 1, f1), (fk 2, f2), (fk 3, f3), (fk 4, f4)])) (.leaf (fu0R .nrm (fuV rounds 1) [(fk 0, f0), (fk 1, f1), (fk 2, f2), (fk 3, f3), (fk 4, f4)])) .fail) .fail)))))) (.leaf ⟨.exit 0, [.any], [none, none, none, none], []⟩)
theorem fu0 (g0 g1 g2 g3 g4 g : Bool) (ow : Ck) (ev : Int) (more : Prt) (own : Ck) (win rounds : Int) (f0 f1 f2 f3 f4 : Ent) : (fuRd (fuG g own win (IntKind.i64.wrap (0 * ev)) more [(fk 0, f0), (fk 1, f1), (fk 2, f2), (fk 3, f3), (fk 4, f4)]) (fuI (fu0G g0 g1 g2 g3 g4 own win (IntKind.i64.wrap (0 * ev)) f0 f1 f2 f3 f4)) (fuV rounds 0) (fuB ow ev more own win [])).den = (fu0T g0 g1 g2 g3 g4 g ow more own win (IntKind.i64.wrap (0 * ev)) rounds f0 f1 f2 f3 f4).den := by
  kernel_rfl
noncomputable def fu1T (g0 g1 g2 g3 g4 g : Bool) (ow : Ck) (more : Prt) (own : Ck) (win now rounds r : Int) (e0 e1 e2 e3 e4 : Ent) (f0 f1 f2 f3 f4 : Ent) : Tree LRes :=
  .ite (decide (r < rounds)) (fuE ow more 0 g0 (eqAB (fuA (fk 0) now) (fuA (fk 0) now) (tabB own win [(fk 0, e0), (fk 1, e1), (fk 2, e2), (fk 3, e3), (fk 4, e4)]) (tabB own win [(fk 0, e0), (fk 1, e1), (fk 2, e2), (fk 3, e3), (fk 4, e4)])) (fu1R .ret [.tru] [none, none, none, none, none]) (fuE ow more 1 g1 (eqAB (fuA (fk 1) now) (fuA (fk 1) now) (tabB own win [(fk 0, f0), (fk 1, e1), (fk 2, e2), (fk 3, e3), (fk 4, e4)]) (tabB own win [(fk 0, f0), (fk 1, e1), (fk 2, e2), (fk 3, e3), (fk 4, e4)])) (fu1R .ret [.tru] [some f0, none, none, none, none]) (fuE ow more 2 g2 (eqAB (fuA (fk 2) now) (fuA (fk 2) now) (tabB own win [(fk 0, f0), (fk 1, f1), (fk 2, e2), (fk 3, e3), (fk 4, e4)]) (tabB own win [(fk 0, f0), (fk 1, f1), (fk 2, e2), (fk 3, e3), (fk 4, e4)])) (fu1R .ret [.tru] [some f0, some f1, none, none, none]) (fuE ow more 3 g3 (eqAB (fuA (fk 3) now) (fuA (fk 3) now) (tabB own win [(fk 0, f0), (fk 1, f1), (fk 2, f2), (fk 3, e3), (fk 4, e4)]) (tabB own win [(fk 0, f0), (fk 1, f1), (fk 2, f2), (fk 3, e3), (fk 4, e4)])) (fu1R .ret [.tru] [some f0, some f1, some f2, none, none]) (fuE ow more 4 g4 (eqAB (fuA (fk 4) now) (fuA (fk 4) now) (tabB own win [(fk 0, f0), (fk 1, f1), (fk 2, f2), (fk 3, f3), (fk 4, e4)]) (tabB own win [(fk 0, f0), (fk 1, f1), (fk 2, f2), (fk 3, f3), (fk 4, e4)])) (fu1R .ret [.tru] [some f0, some f1, some f2, some f3, none]) (.ite g (.ite (eqAB (fuA more now) (fuA more now) (tabB own win [(fk 0, f0), (fk 1, f1), (fk 2, f2), (fk 3, f3), (fk 4, f4)]) (tabB own win [(fk 0, f0), (fk 1, f1), (fk 2, f2), (fk 3, f3), (fk 4, f4)])) (.leaf (fu1R .nrm (fuV rounds (IntKind.i64.wrap (r + 1))) [some f0, some f1, some f2, some f3, some f4])) .fail) .fail)))))) (.leaf ⟨.exit 0, [.any], [none, none, none, none, none, none, none, none, none], []⟩)
theorem fu1 (g0 g1 g2 g3 g4 g : Bool) (ow : Ck) (ev : Int) (more : Prt) (own : Ck) (win rounds r : Int) (e0 e1 e2 e3 e4 : Ent) (f0 f1 f2 f3 f4 : Ent) : (fuRd (fuG g own win (IntKind.i64.wrap (r * ev)) more [(fk 0, f0), (fk 1, f1), (fk 2, f2), (fk 3, f3), (fk 4, f4)]) (fuI (fu1G g0 g1 g2 g3 g4 own win (IntKind.i64.wrap (r * ev)) e0 e1 e2 e3 e4 f0 f1 f2 f3 f4)) (fuV rounds r) (fuB ow ev more own win [(fk 0, e0), (fk 1, e1), (fk 2, e2), (fk 3, e3), (fk 4, e4)])).den = (fu1T g0 g1 g2 g3 g4 g ow more own win (IntKind.i64.wrap (r * ev)) rounds r e0 e1 e2 e3 e4 f0 f1 f2 f3 f4).den := by
  kernel_rfl
theorem fu0q (ow : Ck) (ev : Int) (more : Prt) (own : Ck) (win rounds : Int) (f0 f1 f2 f3 f4 : Ent) : seqOk (fuB ow ev more own win []) (fu0R .nrm (fuV rounds 1) [(fk 0, f0), (fk 1, f1), (fk 2, f2), (fk 3, f3), (fk 4, f4)]) = true ∧ seqVals (fuB ow ev more own win []) (fu0R .nrm (fuV rounds 1) [(fk 0, f0), (fk 1, f1), (fk 2, f2), (fk 3, f3), (fk 4, f4)]) = fuV rounds 1 ∧ seqBlks (fuB ow ev more own win []) (fu0R .nrm (fuV rounds 1) [(fk 0, f0), (fk 1, f1), (fk 2, f2), (fk 3, f3), (fk 4, f4)]) = fuB ow ev more own win [(fk 0, f0), (fk 1, f1), (fk 2, f2), (fk 3, f3), (fk 4, f4)] :=
  ⟨by kernel_rfl, by kernel_rfl, by kernel_rfl⟩
theorem fu1q (ow : Ck) (ev : Int) (more : Prt) (own : Ck) (win rounds r : Int) (e0 e1 e2 e3 e4 : Ent) (f0 f1 f2 f3 f4 : Ent) : seqOk (fuB ow ev more own win [(fk 0, e0), (fk 1, e1), (fk 2, e2), (fk 3, e3), (fk 4, e4)]) (fu1R .nrm (fuV rounds r) [some f0, some f1, some f2, some f3, some f4]) = true ∧ seqVals (fuB ow ev more own win [(fk 0, e0), (fk 1, e1), (fk 2, e2), (fk 3, e3), (fk 4, e4)]) (fu1R .nrm (fuV rounds r) [some f0, some f1, some f2, some f3, some f4]) = fuV rounds r ∧ seqBlks (fuB ow ev more own win [(fk 0, e0), (fk 1, e1), (fk 2, e2), (fk 3, e3), (fk 4, e4)]) (fu1R .nrm (fuV rounds r) [some f0, some f1, some f2, some f3, some f4]) = fuB ow ev more own win [(fk 0, f0), (fk 1, f1), (fk 2, f2), (fk 3, f3), (fk 4, f4)] :=
  ⟨by kernel_rfl, by kernel_rfl, by kernel_rfl⟩
end Go.Proofs.Ytgdalboilghciaa

set_option maxRecDepth 100000
set_option linter.unusedSimpArgs false
set_option linter.unusedVariables false
namespace Go.Proofs.Ytgdalboilghciaa
open Go.Rx
theorem gu_refl : ∀ u : List (Option (Option Blk)), gu u u
  | [] => trivial
  | a :: b => ⟨.inl rfl, gu_refl b⟩
theorem orN_ok {k : FuncId} {s : Rx.Spec} (h : SpecOK P k s) {g : Bool} {A : List V} {B : List Blk} {R : Res} (hR : g = true → (s A B).denN = some R.nrm) : SpecOK P k (orN g A B R) := by
  refine specGive' h ?_
  intro args bs r hr
  unfold orN at hr
  rw [den_need] at hr
  obtain ⟨hg, hr⟩ := hr
  exact ⟨orS A B R, r.upd, or_ok h (hR hg), denN_of hr, gu_refl _⟩
theorem orM_ok {k : FuncId} {s : Rx.Spec} (h : SpecOK P k s) {l : List (Bool × Prt × List V × List Blk × Res)} (hl : ∀ x ∈ l, SpecOK P k (orN x.1 x.2.2.1 x.2.2.2.1 x.2.2.2.2)) : SpecOK P k (orM l) := by
  refine specGive' h ?_
  intro args bs r hr
  induction l with
  | nil => simp [orM, den_fail] at hr
  | cons x l ih =>
    rw [orM] at hr
    split at hr
    · exact ⟨_, r.upd, hl x List.mem_cons_self, denN_of hr, gu_refl _⟩
    · exact ih (fun y hy => hl y (List.mem_cons_of_mem _ hy)) hr
theorem he_U (own : Ck) (win : Int) (es : TabE) (now : Int) (p : Prt) (hn : es.length ≤ 5) : (heS isoL (fuA p now) (tabB own win es)).denN = some (Up.res es (doU isoL own win es ⟨0, now, fs p⟩).2 (doU isoL own win es ⟨0, now, fs p⟩).1).nrm := by
  have h := doU_ok (srt := isoL) (fun _ => rfl) own win es ⟨0, now, fs p⟩ hn
  refine Eq.trans ?_ h
  have e1 : heS isoL (fuA p now) (tabB own win es) = Tree.lit (Nat.ble es.length 5) (heR isoL own win es (fs p) now) := by
    unfold heS
    simp only [tabP_tabB]
    rfl
  have e2 : doS isoL [.ptr 0 0 0 0, (⟨0, now, fs p⟩ : Opp).v] (tabB own win es) = Tree.lit (Nat.ble es.length 5) (doR isoL own win es ⟨0, now, fs p⟩) := by
    unfold doS
    simp only [tabP_tabB]
    rfl
  rw [e1, e2, Nat.ble_eq.mpr hn]
  show (heR isoL own win es (fs p) now).denN = (doR isoL own win es ⟨0, now, fs p⟩).denN
  unfold doR
  rw [denN_ite]
  rfl
theorem doU_app {own : Ck} {win now : Int} {es : TabE} {p : Prt} (hb : badB own (fs p) now = false) (hf : findI p es 0 = none) (hn : Nat.ble 5 es.length = false) : doU isoL own win es ⟨0, now, fs p⟩ = (.app p (newE (fs p) now), 2) := by
  show (match badB own (fs p) now with | true => _ | false => _) = _
  rw [hb]
  show (match findI p es 0 with | some i => _ | none => _) = _
  rw [hf]
  show (match Nat.ble 5 es.length with | false => _ | true => _) = _
  rw [hn]
  rfl
theorem doU_set {own : Ck} {win now : Int} {es : TabE} {p : Prt} {i : Nat} (hb : badB own (fs p) now = false) (hf : findI p es 0 = some i) (ht : ¬ (es.getD i default).2.t0 > now) : doU isoL own win es ⟨0, now, fs p⟩ = (.set i (heardE (fs p) now (es.getD i default).2), 1) := by
  show (match badB own (fs p) now with | true => _ | false => _) = _
  rw [hb]
  show (match findI p es 0 with | some i => _ | none => _) = _
  rw [hf]
  show (match decide ((es.getD i default).2.t0 > now) with | true => _ | false => _) = _
  rw [decide_eq_false ht]
theorem doU_keep {own : Ck} {win now : Int} {es : TabE} {p : Prt} (hb : badB own (fs p) now = false) (hf : findI p es 0 = none) (hn : Nat.ble 5 es.length = true) (ho : ovB isoL es win now = false) : doU isoL own win es ⟨0, now, fs p⟩ = (.keep, 4) := by
  show (match badB own (fs p) now with | true => _ | false => _) = _
  rw [hb]
  show (match findI p es 0 with | some i => _ | none => _) = _
  rw [hf]
  show (match Nat.ble 5 es.length with | false => _ | true => _) = _
  rw [hn]
  show (match ovB isoL es win now with | true => _ | false => _) = _
  rw [ho]
/-- Is somebody in the way? -/
def wayB (ow : Ck) (more : Prt) (k : Int) : Bool := (fk k).c.eqB ow || ((fk k).eqB more || more.c.eqB ow)
theorem fuE_way {ow : Ck} {more : Prt} {k : Int} {g q : Bool} {R : LRes} {next : Tree LRes} (h : wayB ow more k = true) : (fuE ow more k g q R next).den = some R := by
  unfold fuE
  unfold wayB at h
  cases h1 : (fk k).c.eqB ow with
  | true => rfl
  | false =>
    cases h2 : (fk k).eqB more with
    | true => rfl
    | false =>
      rw [h1, h2] at h
      have h : more.c.eqB ow = true := h
      rw [h]
      rfl
theorem fuE_go {ow : Ck} {more : Prt} {k : Int} {R : LRes} {next : Tree LRes} (h : wayB ow more k = false) : (fuE ow more k true true R next).den = next.den := by
  unfold fuE
  unfold wayB at h
  simp only [Bool.or_eq_false_iff] at h
  rw [h.1, h.2.1, h.2.2]
  rfl
theorem way_own {ow : Ck} {more : Prt} {k : Int} (h : wayB ow more k = false) : (fk k).c.eqB ow = false ∧ more.eqB (fk k) = false ∧ more.c.eqB ow = false := by
  unfold wayB at h
  simp only [Bool.or_eq_false_iff] at h
  refine ⟨h.1, ?_, h.2.2⟩
  rw [Bool.eq_false_iff]
  intro he
  have := Prt.eqB_iff.1 he
  rw [this, Prt.eqB_self] at h
  exact absurd h.2.1 (by simp)
abbrev es5 (e0 e1 e2 e3 e4 : Ent) : TabE := [(fk 0, e0), (fk 1, e1), (fk 2, e2), (fk 3, e3), (fk 4, e4)]
theorem ov_none {win now t : Int} {e0 e1 e2 e3 e4 : Ent} (h0 : e0.t0 = t) (h1 : e1.t0 = t) (h2 : e2.t0 = t) (h3 : e3.t0 = t) (h4 : e4.t0 = t) (hw : IntKind.i64.wrap (now - win) < t) : ovB isoL (es5 e0 e1 e2 e3 e4) win now = false := by
  unfold ovB
  have : overL isoL (es5 e0 e1 e2 e3 e4) win now = [] := by
    unfold overL
    rw [List.filter_eq_nil_iff]
    intro x hx
    have hx := (isoL_perm _).mem_iff.1 hx
    have hl : (lastE x (es5 e0 e1 e2 e3 e4)).2.1 = t := by
      simp only [es5, List.map_cons, List.map_nil, List.mem_cons, List.not_mem_nil, or_false] at hx
      rcases hx with rfl | rfl | rfl | rfl | rfl
      · exact h0
      · exact h1
      · exact h2
      · exact h3
      · exact h4
    rw [hl, decide_eq_false (by omega)]
    simp
  rw [this]
  rfl
/-- A sender's entry after r rounds. -/
abbrev eR (ev : Int) (k : Int) (r : Nat) : Ent := onE (fs (fk k)) ev r
theorem fs_bad {own : Ck} {p : Prt} {now : Int} (h1 : 0 ≤ now) (h2 : now ≤ 4611686018427387904) (h : p.c.eqB own = false) : badB own (fs p) now = false := bad_no h1 h2 h (by show (0 : Int) ≤ 0; decide) (by show (0 : Int) < 255; decide)
theorem he_app {own : Ck} {win now : Int} {es : TabE} {p : Prt} (hn : es.length ≤ 5) (h1 : 0 ≤ now) (h2 : now ≤ 4611686018427387904) (hf : findI p es 0 = none) (hl : Nat.ble 5 es.length = false) (hg : p.c.eqB own = false) :
    (heS isoL (fuA p now) (tabB own win es)).denN = some (Up.res es 2 (.app p (newE (fs p) now))).nrm := by
  have := he_U own win es now p hn
  rw [doU_app (fs_bad h1 h2 hg) hf hl] at this
  exact this
theorem he_set {own : Ck} {win now : Int} {es : TabE} {p : Prt} {i : Nat} {e : Ent} (hn : es.length ≤ 5) (h1 : 0 ≤ now) (h2 : now ≤ 4611686018427387904) (hf : findI p es 0 = some i) (hi : (es.getD i default).2 = e) (ht : ¬ e.t0 > now) (hg : p.c.eqB own = false) :
    (heS isoL (fuA p now) (tabB own win es)).denN = some (Up.res es 1 (.set i (heardE (fs p) now e))).nrm := by
  have := he_U own win es now p hn
  rw [doU_set (fs_bad h1 h2 hg) hf (by rw [hi]; exact ht), hi] at this
  exact this
theorem he_keep {own : Ck} {win now : Int} {es : TabE} {p : Prt} (hn : es.length ≤ 5) (h1 : 0 ≤ now) (h2 : now ≤ 4611686018427387904) (hf : findI p es 0 = none) (hl : Nat.ble 5 es.length = true) (ho : ovB isoL es win now = false) (hg : p.c.eqB own = false) :
    (heS isoL (fuA p now) (tabB own win es)).denN = some (Up.res es 4 .keep).nrm := by
  have := he_U own win es now p hn
  rw [doU_keep (fs_bad h1 h2 hg) hf hl ho] at this
  exact this
theorem find_more {more : Prt} {own : Ck} {e0 e1 e2 e3 e4 : Ent} (h0 : more.eqB (fk 0) = false) (h1 : more.eqB (fk 1) = false) (h2 : more.eqB (fk 2) = false) (h3 : more.eqB (fk 3) = false) (h4 : more.eqB (fk 4) = false) : findI more (es5 e0 e1 e2 e3 e4) 0 = none := by
  simp only [es5, findI, h0, h1, h2, h3, h4]
abbrev fuRG (n : Nat) (rounds : Nat) (r : Int) (ow : Ck) (ev : Int) (more : Prt) (own : Ck) (win : Int) (es : TabE) (e : Ex) (vs : List V) : Prop := RunG P [] 94 [3, 4, 7, 40, 41] [6] (loopAt Try.f4 0) n (fuV rounds r) (fuB ow ev more own win es) e vs
theorem fu_loops {G : List (Nat × Rx.Spec)} (h : GammaOK P G) : LoopsOK P (loopsOf [(8, fuI G)]) (loopAt Try.f4 0) := LoopsOK.inner (d := loopAt Try.f4 1) (by kernel_rfl) (by kernel_rfl) (fUnroll_ok h hm (Λ := loopsOf []) (LoopsOK.nil (by kernel_rfl)) _ _)
theorem heK : SpecOK P 11 (heS isoL) := he_ok (ov_ok fun _ => rfl)
theorem fu_rest (own : Ck) (ev : Int) (more : Prt) (e1 : 1 ≤ ev) (e2 : ev ≤ 1073741824) (R : Nat) (hR : R ≤ 40) (w0 : wayB own more 0 = false) (w1 : wayB own more 1 = false) (w2 : wayB own more 2 = false) (w3 : wayB own more 3 = false) (w4 : wayB own more 4 = false) :
    ∀ (d r : Nat), r + 1 + d = R → fuRG (d + 1) R ((r + 1 : Nat) : Int) own ev more own (IntKind.i64.wrap (4 * ev)) (es5 (eR ev 0 r) (eR ev 1 r) (eR ev 2 r) (eR ev 3 r) (eR ev 4 r)) (.exit 0) [.any] := by
  intro d
  induction d with
  | zero =>
    intro r hr
    have hx := fu1 false false false false false false own ev more own (IntKind.i64.wrap (4 * ev)) R ((r + 1 : Nat) : Int) (eR ev 0 r) (eR ev 1 r) (eR ev 2 r) (eR ev 3 r) (eR ev 4 r) default default default default default
    unfold fu1T at hx
    rw [decide_eq_false (show ¬ ((r + 1 : Nat) : Int) < (R : Int) by omega)] at hx
    have hgi : GammaOK P (fu1G false false false false false own (IntKind.i64.wrap (4 * ev)) (IntKind.i64.wrap (((r + 1 : Nat) : Int) * ev)) (eR ev 0 r) (eR ev 1 r) (eR ev 2 r) (eR ev 3 r) (eR ev 4 r) default default default default default) := .cons (orM_ok heK (by
      intro x hx
      simp only [fu1L, List.mem_cons, List.not_mem_nil, or_false] at hx
      rcases hx with rfl | rfl | rfl | rfl | rfl <;> exact orN_ok heK (fun h => by cases h))) (.cons (al_ok (srt := isoL) fun _ => rfl) (.nil P))
    have hgo : GammaOK P (fuG false own (IntKind.i64.wrap (4 * ev)) (IntKind.i64.wrap (((r + 1 : Nat) : Int) * ev)) more [(fk 0, default), (fk 1, default), (fk 2, default), (fk 3, default), (fk 4, default)]) := .cons (orN_ok heK (fun h => by cases h)) (.cons le_ok (.nil P))
    unfold fuRG RunG
    exact ⟨_, _, ⟨.exit 0, [.any], [none, none, none, none, none, none, none, none, none], []⟩, hgo, fu_loops hgi, hx, rfl, .inl ⟨by show Ex.exit 0 ≠ Ex.nrm; decide, rfl, rfl⟩⟩
  | succ d ih =>
    intro r hr
    have hx := fu1 true true true true true true own ev more own (IntKind.i64.wrap (4 * ev)) R ((r + 1 : Nat) : Int) (eR ev 0 r) (eR ev 1 r) (eR ev 2 r) (eR ev 3 r) (eR ev 4 r) (eR ev 0 (r + 1)) (eR ev 1 (r + 1)) (eR ev 2 (r + 1)) (eR ev 3 (r + 1)) (eR ev 4 (r + 1))
    unfold fu1T at hx
    rw [decide_eq_true (show ((r + 1 : Nat) : Int) < (R : Int) by omega)] at hx
    simp only [eqAB_self] at hx
    have hx := hx.trans ((fuE_go w0).trans ((fuE_go w1).trans ((fuE_go w2).trans ((fuE_go w3).trans ((fuE_go w4).trans rfl)))))
    have w : IntKind.i64.wrap (((r + 1 : Nat) : Int) * ev) = ((r + 1 : Nat) : Int) * ev := wrap_k e1 e2 (by omega)
    have b := mul_b (k := r + 1) e1 e2 (by omega)
    have wv : IntKind.i64.wrap (4 * ev) = 4 * ev := wrap64_id (by omega) (by omega)
    have ek : ((r + 1 : Nat) : Int) * ev = (r : Int) * ev + ev := by rw [Int.natCast_add, Int.add_mul]; simp
    have n1 : 0 ≤ IntKind.i64.wrap (((r + 1 : Nat) : Int) * ev) := by rw [w]; exact b.1
    have n2 : IntKind.i64.wrap (((r + 1 : Nat) : Int) * ev) ≤ 4611686018427387904 := by rw [w]; omega
    have late : ∀ k, ¬ (eR ev k r).t0 > IntKind.i64.wrap (((r + 1 : Nat) : Int) * ev) := fun k => by
      rw [onE_t0 e1 e2 r (by omega), w]
      omega
    have t1 : ∀ k, (eR ev k (r + 1)).t0 = ((r + 1 : Nat) : Int) * ev := fun k => onE_t0 e1 e2 (r + 1) (by omega)
    have hgi : GammaOK P (fu1G true true true true true own (IntKind.i64.wrap (4 * ev)) (IntKind.i64.wrap (((r + 1 : Nat) : Int) * ev)) (eR ev 0 r) (eR ev 1 r) (eR ev 2 r) (eR ev 3 r) (eR ev 4 r) (eR ev 0 (r + 1)) (eR ev 1 (r + 1)) (eR ev 2 (r + 1)) (eR ev 3 (r + 1)) (eR ev 4 (r + 1))) := .cons (orM_ok heK (by
      intro x hx
      simp only [fu1L, List.mem_cons, List.not_mem_nil, or_false] at hx
      rcases hx with rfl | rfl | rfl | rfl | rfl
      · exact orN_ok heK (fun _ => he_set (i := 0) (e := eR ev 0 r) (Nat.le_refl 5) n1 n2 (by kernel_rfl) rfl (late 0) (way_own w0).1)
      · exact orN_ok heK (fun _ => he_set (i := 1) (e := eR ev 1 r) (Nat.le_refl 5) n1 n2 (by kernel_rfl) rfl (late 1) (way_own w1).1)
      · exact orN_ok heK (fun _ => he_set (i := 2) (e := eR ev 2 r) (Nat.le_refl 5) n1 n2 (by kernel_rfl) rfl (late 2) (way_own w2).1)
      · exact orN_ok heK (fun _ => he_set (i := 3) (e := eR ev 3 r) (Nat.le_refl 5) n1 n2 (by kernel_rfl) rfl (late 3) (way_own w3).1)
      · exact orN_ok heK (fun _ => he_set (i := 4) (e := eR ev 4 r) (Nat.le_refl 5) n1 n2 (by kernel_rfl) rfl (late 4) (way_own w4).1))) (.cons (al_ok (srt := isoL) fun _ => rfl) (.nil P))
    have hgo : GammaOK P (fuG true own (IntKind.i64.wrap (4 * ev)) (IntKind.i64.wrap (((r + 1 : Nat) : Int) * ev)) more (es5 (eR ev 0 (r + 1)) (eR ev 1 (r + 1)) (eR ev 2 (r + 1)) (eR ev 3 (r + 1)) (eR ev 4 (r + 1)))) :=
      .cons (orN_ok heK (fun _ => he_keep (Nat.le_refl 5) n1 n2 (find_more (own := own) (way_own w0).2.1 (way_own w1).2.1 (way_own w2).2.1 (way_own w3).2.1 (way_own w4).2.1) rfl (ov_none (t1 0) (t1 1) (t1 2) (t1 3) (t1 4) (by rw [w, wv, wrap64_id (by omega) (by omega)]; omega)) (way_own w0).2.2)) (.cons le_ok (.nil P))
    have wk : IntKind.i64.wrap (((r + 1 : Nat) : Int) + 1) = ((r + 1 + 1 : Nat) : Int) := by rw [wrap64_id (by omega) (by omega)]; omega
    rw [wk] at hx
    obtain ⟨q1, q2, q3⟩ := fu1q own ev more own (IntKind.i64.wrap (4 * ev)) R ((r + 1 + 1 : Nat) : Int) (eR ev 0 r) (eR ev 1 r) (eR ev 2 r) (eR ev 3 r) (eR ev 4 r) (eR ev 0 (r + 1)) (eR ev 1 (r + 1)) (eR ev 2 (r + 1)) (eR ev 3 (r + 1)) (eR ev 4 (r + 1))
    unfold fuRG
    rw [RunG]
    refine ⟨_, _, _, hgo, fu_loops hgi, hx, rfl, .inr ⟨rfl, q1, rfl, ?_⟩⟩
    rw [q2, q3]
    exact ih (r + 1) (by omega)
theorem fu_first (own : Ck) (ev : Int) (more : Prt) (e1 : 1 ≤ ev) (e2 : ev ≤ 1073741824) (R : Nat) (h1 : 1 ≤ R) (hR : R ≤ 40) :
    fuRG (R + 1) R 0 own ev more own (IntKind.i64.wrap (4 * ev)) [] (.exit 0) [.any] ∨ fuRG (R + 1) R 0 own ev more own (IntKind.i64.wrap (4 * ev)) [] .ret [.tru] := by
  have n1 : 0 ≤ IntKind.i64.wrap (0 * ev) := by rw [Int.zero_mul]; decide
  have n2 : IntKind.i64.wrap (0 * ev) ≤ 4611686018427387904 := by rw [Int.zero_mul]; decide
  have wv : IntKind.i64.wrap (4 * ev) = 4 * ev := wrap64_id (by omega) (by omega)
  have t1 : ∀ k, (eR ev k 0).t0 = (0 : Int) := fun k => by
    rw [onE_t0 e1 e2 0 (by omega)]
    simp
  have hgi : ∀ (g0 g1 g2 g3 g4 : Bool), (g0 = true → wayB own more 0 = false) → (g1 = true → wayB own more 1 = false) → (g2 = true → wayB own more 2 = false) → (g3 = true → wayB own more 3 = false) → (g4 = true → wayB own more 4 = false) →
      GammaOK P (fu0G g0 g1 g2 g3 g4 own (IntKind.i64.wrap (4 * ev)) (IntKind.i64.wrap (0 * ev)) (eR ev 0 0) (eR ev 1 0) (eR ev 2 0) (eR ev 3 0) (eR ev 4 0)) := by
    intro g0 g1 g2 g3 g4 w0 w1 w2 w3 w4
    refine .cons (orM_ok heK ?_) (.cons (al_ok (srt := isoL) fun _ => rfl) (.nil P))
    intro x hx
    simp only [fu0L, List.mem_cons, List.not_mem_nil, or_false] at hx
    rcases hx with rfl | rfl | rfl | rfl | rfl
    · exact orN_ok heK (fun h => he_app (by simp) n1 n2 (by kernel_rfl) rfl (way_own (w0 h)).1)
    · exact orN_ok heK (fun h => he_app (by simp) n1 n2 (by kernel_rfl) rfl (way_own (w1 h)).1)
    · exact orN_ok heK (fun h => he_app (by simp) n1 n2 (by kernel_rfl) rfl (way_own (w2 h)).1)
    · exact orN_ok heK (fun h => he_app (by simp) n1 n2 (by kernel_rfl) rfl (way_own (w3 h)).1)
    · exact orN_ok heK (fun h => he_app (by simp) n1 n2 (by kernel_rfl) rfl (way_own (w4 h)).1)
  have hno : GammaOK P (fuG false own (IntKind.i64.wrap (4 * ev)) (IntKind.i64.wrap (0 * ev)) more (es5 (eR ev 0 0) (eR ev 1 0) (eR ev 2 0) (eR ev 3 0) (eR ev 4 0))) := .cons (orN_ok heK (fun h => by cases h)) (.cons le_ok (.nil P))
  have ret : ∀ {G : List (Nat × Rx.Spec)} {G' : List (Nat × Rx.Spec)} {L : LRes}, GammaOK P G → GammaOK P G' → L.e = .ret → L.vs = [.tru] →
      (fuRd G (fuI G') (fuV R 0) (fuB own ev more own (IntKind.i64.wrap (4 * ev)) [])).den = some L → fuRG (R + 1) R 0 own ev more own (IntKind.i64.wrap (4 * ev)) [] .ret [.tru] := by
    intro G G' L a b c1 c2 hx
    unfold fuRG
    rw [RunG]
    exact ⟨_, _, L, a, fu_loops b, hx, rfl, .inl ⟨by rw [c1]; decide, c1.symm, c2.symm⟩⟩
  have hx := fun (g0 g1 g2 g3 g4 g : Bool) => fu0 g0 g1 g2 g3 g4 g own ev more own (IntKind.i64.wrap (4 * ev)) R (eR ev 0 0) (eR ev 1 0) (eR ev 2 0) (eR ev 3 0) (eR ev 4 0)
  unfold fu0T at hx
  rw [decide_eq_true (show (0 : Int) < (R : Int) by omega)] at hx
  simp only [eqAB_self] at hx
  cases w0 : wayB own more 0 with
  | true => exact .inr (ret hno (hgi false false false false false (fun h => by cases h) (fun h => by cases h) (fun h => by cases h) (fun h => by cases h) (fun h => by cases h)) rfl rfl ((hx false false false false false false).trans (fuE_way w0)))
  | false =>
    cases w1 : wayB own more 1 with
    | true => exact .inr (ret hno (hgi true false false false false (fun _ => w0) (fun h => by cases h) (fun h => by cases h) (fun h => by cases h) (fun h => by cases h)) rfl rfl ((hx true false false false false false).trans ((fuE_go w0).trans (fuE_way w1))))
    | false =>
      cases w2 : wayB own more 2 with
      | true => exact .inr (ret hno (hgi true true false false false (fun _ => w0) (fun _ => w1) (fun h => by cases h) (fun h => by cases h) (fun h => by cases h)) rfl rfl ((hx true true false false false false).trans ((fuE_go w0).trans ((fuE_go w1).trans (fuE_way w2)))))
      | false =>
        cases w3 : wayB own more 3 with
        | true => exact .inr (ret hno (hgi true true true false false (fun _ => w0) (fun _ => w1) (fun _ => w2) (fun h => by cases h) (fun h => by cases h)) rfl rfl ((hx true true true false false false).trans ((fuE_go w0).trans ((fuE_go w1).trans ((fuE_go w2).trans (fuE_way w3))))))
        | false =>
          cases w4 : wayB own more 4 with
          | true => exact .inr (ret hno (hgi true true true true false (fun _ => w0) (fun _ => w1) (fun _ => w2) (fun _ => w3) (fun h => by cases h)) rfl rfl ((hx true true true true false false).trans ((fuE_go w0).trans ((fuE_go w1).trans ((fuE_go w2).trans ((fuE_go w3).trans (fuE_way w4)))))))
          | false =>
            left
            have hx := (hx true true true true true true).trans ((fuE_go w0).trans ((fuE_go w1).trans ((fuE_go w2).trans ((fuE_go w3).trans ((fuE_go w4).trans rfl)))))
            have hgo : GammaOK P (fuG true own (IntKind.i64.wrap (4 * ev)) (IntKind.i64.wrap (0 * ev)) more (es5 (eR ev 0 0) (eR ev 1 0) (eR ev 2 0) (eR ev 3 0) (eR ev 4 0))) :=
              .cons (orN_ok heK (fun _ => he_keep (Nat.le_refl 5) n1 n2 (find_more (own := own) (way_own w0).2.1 (way_own w1).2.1 (way_own w2).2.1 (way_own w3).2.1 (way_own w4).2.1) rfl (ov_none (t1 0) (t1 1) (t1 2) (t1 3) (t1 4) (by rw [Int.zero_mul, wv, show IntKind.i64.wrap 0 = 0 from rfl, wrap64_id (by omega) (by omega)]; omega)) (way_own w0).2.2)) (.cons le_ok (.nil P))
            obtain ⟨q1, q2, q3⟩ := fu0q own ev more own (IntKind.i64.wrap (4 * ev)) R (eR ev 0 0) (eR ev 1 0) (eR ev 2 0) (eR ev 3 0) (eR ev 4 0)
            unfold fuRG
            rw [RunG]
            refine ⟨_, _, _, hgo, fu_loops (hgi true true true true true (fun _ => w0) (fun _ => w1) (fun _ => w2) (fun _ => w3) (fun _ => w4)), hx, rfl, .inr ⟨rfl, q1, rfl, ?_⟩⟩
            rw [q2, q3]
            obtain ⟨d, rfl⟩ : ∃ d, R = 0 + 1 + d := ⟨R - 1, by omega⟩
            have := fu_rest own ev more e1 e2 (0 + 1 + d) hR w0 w1 w2 w3 w4 d 0 rfl
            rw [show 0 + 1 + d = d + 1 by omega] at this ⊢
            exact this
/-- Does the loop end early? -/
noncomputable def fuQ (ev : Int) (own : Ck) (more : Prt) (R : Nat) : Bool := @decide (fuRG (R + 1) R 0 own ev more own (IntKind.i64.wrap (4 * ev)) [] .ret [.tru]) (Classical.propDecidable _)
noncomputable def fuLf (vals : List V) (bs : List Blk) : Tree LRes := match vals, bs with
  | [.ptr 0 0 0 0, .ptr 1 0 0 0, .ptr 2 0 0 0, .int .i64 rounds, .int .i64 0], [Body.cells xc, Body.cells mc, tc, kb] => match Ck.p xc, Prt.p mc, tabPk 2 [tc, kb] with
    | some (own', [.int .i64 ev]), some (more, []), some (own, win, []) => .need (own'.eqB own && (win == IntKind.i64.wrap (4 * ev) && (!(decide (ev < 1)) && (!(decide (ev > 1073741824)) && (!(decide (rounds < 1)) && !(decide (rounds > 30)))))))
        (.ite (fuQ ev own more rounds.toNat) (.leaf ⟨.ret, [.tru], goneU [] 4, []⟩) (.leaf ⟨.exit 0, [.any], goneU [] 4, []⟩))
    | _, _, _ => .fail
  | _, _ => .fail
noncomputable abbrev fuLs : LSpec := ⟨94, [3, 4, 7, 40, 41], [6], fuLf⟩
theorem fu_loop : LoopOK P (loopAt Try.f4 0) fuLs := by
  refine loop_okG [] hm fuLs ?_
  intro vals bs r h
  change (fuLf vals bs).den = some r at h
  unfold fuLf at h
  split at h
  · rename_i rounds xc mc tc kb
    split at h
    · rename_i own' ev more own win hs hq hb
      have hb := tabPk_eq hb
      have hs := Ck.p_eq hs
      have hq := Prt.p_eq hq
      rw [List.append_nil] at hq
      rw [den_need] at h
      obtain ⟨h2, h⟩ := h
      simp only [Bool.and_eq_true, Bool.not_eq_true', decide_eq_false_iff_not, beq_iff_eq, Ck.eqB_iff] at h2
      obtain ⟨rfl, rfl, a1, a2, a3, a4⟩ := h2
      subst hs hq
      have hb : tc :: [kb] = Body.cells (own'.vs ++ [.int .i64 (IntKind.i64.wrap (4 * ev)), .mapr 3]) :: [Body.kv [] []] := hb
      have e1 := (List.cons.inj hb).1
      have e2 := (List.cons.inj (List.cons.inj hb).2).1
      obtain ⟨R, rfl⟩ : ∃ R : Nat, rounds = (R : Int) := ⟨rounds.toNat, by omega⟩
      rw [Int.toNat_natCast] at h
      have hr := fu_first own' ev more (by omega) (by omega) R (by omega) (by omega)
      cases hq : fuQ ev own' more R with
      | true =>
        rw [hq] at h
        have h : some (⟨.ret, [.tru], goneU [] 4, []⟩ : LRes) = some r := h
        cases h
        refine ⟨rfl, rfl, rfl, R + 1, ?_⟩
        rw [e1, e2]
        unfold fuQ at hq
        exact @of_decide_eq_true _ (Classical.propDecidable _) hq
      | false =>
        rw [hq] at h
        have h : some (⟨.exit 0, [.any], goneU [] 4, []⟩ : LRes) = some r := h
        cases h
        refine ⟨rfl, rfl, rfl, R + 1, ?_⟩
        rw [e1, e2]
        rcases hr with hr | hr
        · exact hr
        · unfold fuQ at hq
          exact absurd hr (@of_decide_eq_false _ (Classical.propDecidable _) hq)
    · simp [den_fail] at h
  · simp [den_fail] at h
abbrev fuWG : List (Nat × Rx.Spec) := [(9, neS), (10, alS)]
noncomputable def fuWT (own : Ck) (ev rounds : Int) (more : Prt) : Tree Res :=
  .ite (decide (ev < 1)) (.leaf ⟨.tru, [], []⟩) (.ite (decide (ev > 1099511627776)) (.leaf ⟨.tru, [], []⟩) (.ite (decide (rounds < 1)) (.leaf ⟨.tru, [], []⟩) (.ite (decide (rounds > 30)) (.leaf ⟨.tru, [], []⟩) (.ite (decide (ev > 1073741824)) (.leaf ⟨.tru, [], []⟩)
    (.ite (own.eqB own && (IntKind.i64.wrap (4 * ev) == IntKind.i64.wrap (4 * ev) && (!(decide (ev < 1)) && (!(decide (ev > 1073741824)) && (!(decide (rounds < 1)) && !(decide (rounds > 30))))))) (.ite (fuQ ev own more rounds.toNat) (.leaf ⟨.tru, [], []⟩) (.leaf ⟨.tru, [], []⟩)) .fail)))))
theorem fuW_nf (own : Ck) (ev rounds : Int) (more : Prt) : Tree.denN (fFn P (specsOf fuWG) (loopsOf [(5, fuLs)]) Try.f4 [.agg (own.vs ++ [.int .i64 ev]), more.v, .int .i64 rounds] []) = Tree.denN (fuWT own ev rounds more) := by
  kernel_rfl
theorem fuW_true (own : Ck) (ev rounds : Int) (more : Prt) : (fuWT own ev rounds more).denN = some (Res.nrm ⟨.bool true, [], []⟩) := by
  unfold fuWT
  cases a1 : decide (ev < 1) with
  | true => rfl
  | false =>
    cases a2 : decide (ev > 1099511627776) with
    | true => rfl
    | false =>
      cases a3 : decide (rounds < 1) with
      | true => rfl
      | false =>
        cases a4 : decide (rounds > 30) with
        | true => rfl
        | false =>
          cases a5 : decide (ev > 1073741824) with
          | true => rfl
          | false =>
            rw [Ck.eqB_self, beq_self_eq_true]
            cases fuQ ev own more rounds.toNat <;> rfl
def fuS : Rx.Spec := fun a b => match a, b with
  | [q, m, .int .i64 rounds], [] => match Sea.of q, Prt.of m with
    | some x, some more => .leaf ⟨.bool true, [], []⟩
    | _, _ => .fail
  | _, _ => .fail
theorem fu_ok : SpecOK P 4 fuS := by
  refine specOK_fast (.cons ne_ok (.cons (al_ok (srt := isoL) fun _ => rfl) (.nil P)) : GammaOK P fuWG) hm (Λ := loopsOf [(5, fuLs)]) Try.func4 (by kernel_rfl) (LoopsOK.outer (by kernel_rfl) (by kernel_rfl) fu_loop) ?_
  intro args bs r h
  unfold fuS at h
  split at h
  · rename_i q m rounds
    split at h
    · rename_i x more h1 h2
      have h1 := Sea.of_eq h1
      have h2 := Prt.of_eq h2
      subst h1 h2
      rw [denLf] at h
      cases h
      exact (fuW_nf x.own x.ev rounds more).trans (fuW_true x.own x.ev rounds more)
    · simp [den_fail] at h
  · simp [den_fail] at h
end Go.Proofs.Ytgdalboilghciaa
