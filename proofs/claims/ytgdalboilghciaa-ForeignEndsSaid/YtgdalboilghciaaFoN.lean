/- Layer 8: a call on a table, told as one of seven; rounds of ForeignEnds; the law of who is qualified where nobody was heard, as a function. The conditions stand in the specification; the row meets them. -/
import Derived.Test.YtgdalboilghciaaFoE
import Derived.Test.YtgdalboilghciaaRxD
import Derived.Test.YtgdalboilghciaaFoF
set_option linter.unusedSimpArgs false
set_option linter.unusedVariables false
set_option linter.unnecessarySimpa false
set_option linter.unusedSectionVars false
set_option maxRecDepth 100000
set_option linter.unusedSimpArgs false
set_option linter.unusedVariables false
namespace Go.Proofs.Ytgdalboilghciaa
open Go.Rx
inductive Up where
  | keep
  | same
  | set (i : Nat) (e : Ent)
  | app (p : Prt) (e : Ent)
  | evi (i : Nat) (p : Prt) (e : Ent)
  | drop (i : Nat)
  | clear
def Up.res (es : TabE) (t : Int) : Up → Res
  | .keep => ⟨.int .i64 t, noneU es.length, []⟩
  | .same => ⟨.int .i64 t, kvU es.length (keysB es) (ptrsF 2 es.length), []⟩
  | .set i e => ⟨.int .i64 t, entU es.length i e, []⟩
  | .app p e => ⟨.int .i64 t, kvU es.length (keysB es ++ [p.v]) (ptrsF 2 es.length ++ [.ptr (es.length + 2) 0 0 0]), [.cells e.vs]⟩
  | .evi i p e => ⟨.int .i64 t, kvU es.length ((keysB es).eraseIdx i ++ [p.v]) ((ptrsF 2 es.length).eraseIdx i ++ [.ptr (es.length + 2) 0 0 0]), [.cells e.vs]⟩
  | .drop i => ⟨.int .i64 t, kvU es.length ((keysB es).eraseIdx i) ((ptrsF 2 es.length).eraseIdx i), []⟩
  | .clear => ⟨.int .i64 t, kvU es.length [] [], []⟩
def Up.tab (es : TabE) : Up → TabE
  | .keep => es
  | .same => es
  | .set i e => es.set i ((es.getD i default).1, e)
  | .app p e => es ++ [(p, e)]
  | .evi i p e => es.eraseIdx i ++ [(p, e)]
  | .drop i => es.eraseIdx i
  | .clear => []
/-- What is written of the blocks from the map on (block k): the map, the entries; what is new. -/
def Up.upd (k : Nat) (es : TabE) : Up → List (Option (Option Blk))
  | .keep => List.replicate (es.length + 1) none
  | .same => some (some (.kv (keysB es) (ptrsF (k + 1) es.length))) :: List.replicate es.length none
  | .set i e => none :: (List.replicate es.length none).set i (some (some (.cells e.vs)))
  | .app p e => some (some (.kv (keysB es ++ [p.v]) (ptrsF (k + 1) es.length ++ [.ptr (es.length + k + 1) 0 0 0]))) :: List.replicate es.length none
  | .evi i p e => some (some (.kv ((keysB es).eraseIdx i ++ [p.v]) ((ptrsF (k + 1) es.length).eraseIdx i ++ [.ptr (es.length + k + 1) 0 0 0]))) :: List.replicate es.length none
  | .drop i => some (some (.kv ((keysB es).eraseIdx i) ((ptrsF (k + 1) es.length).eraseIdx i))) :: List.replicate es.length none
  | .clear => some (some (.kv [] [])) :: List.replicate es.length none
def Up.news : Up → List Blk
  | .app _ e => [.cells e.vs]
  | .evi _ _ e => [.cells e.vs]
  | _ => []
def Up.okU (n : Nat) : Up → Prop
  | .set i _ => i < n
  | .app _ _ => n < 5
  | .evi i _ _ => i < n
  | .drop i => i < n
  | _ => True
def findI (p : Prt) : TabE → Nat → Option Nat
  | [], _ => none
  | e :: r, k => match p.eqB e.1 with
    | true => some k
    | false => findI p r (k + 1)
theorem chain_den (p : Prt) (f : Nat → Tree Res) (z : Tree Res) : ∀ (es : TabE) (k : Nat), (chainE p es k f z).denN = match findI p es k with | some i => (f i).denN | none => z.denN
  | [], k => rfl
  | e :: r, k => by
    rw [chainE, denN_ite, findI]
    cases p.eqB e.1 with
    | true => rfl
    | false => exact chain_den p f z r (k + 1)
theorem find_some {p : Prt} : ∀ {es : TabE} {k i : Nat}, findI p es k = some i → k ≤ i ∧ i < k + es.length ∧ ∃ e, es[i - k]? = some (p, e)
  | [], k, i, h => by cases h
  | e :: r, k, i, h => by
    rw [findI] at h
    split at h
    · rename_i he
      cases h
      refine ⟨Nat.le_refl _, by simp, e.2, ?_⟩
      rw [Nat.sub_self]
      have := Prt.eqB_iff.1 he
      rw [this]
      rfl
    · obtain ⟨h1, h2, y, h3⟩ := find_some h
      refine ⟨by omega, by simp; omega, y, ?_⟩
      rw [show i - k = (i - (k + 1)) + 1 by omega]
      simpa using h3
theorem find_none {p : Prt} : ∀ {es : TabE} {k : Nat}, findI p es k = none → ∀ x ∈ es, x.1 ≠ p
  | [], k, h, x, hx => by simp at hx
  | e :: r, k, h, x, hx => by
    rw [findI] at h
    split at h
    · cases h
    · rename_i he
      rcases List.mem_cons.1 hx with rfl | hx
      · intro e2
        rw [← e2, Prt.eqB_self] at he
        cases he
      · exact find_none h x hx
def doU (srt : List Prt → List Prt) (own : Ck) (win : Int) (es : TabE) (o : Opp) : Up × Int :=
  match o.k == 0 with
  | true => match badB own o.s o.now with
    | true => (.keep, 0)
    | false => match findI o.s.snd es 0 with
      | some i => match decide ((es.getD i default).2.t0 > o.now) with
        | true => (.keep, 0)
        | false => (.set i (heardE o.s o.now (es.getD i default).2), 1)
      | none => match Nat.ble 5 es.length with
        | false => (.app o.s.snd (newE o.s o.now), 2)
        | true => match ovB srt es win o.now with
          | true => match findI (ovP srt es win o.now) es 0 with
            | some i => (.evi i o.s.snd (newE o.s o.now), 3)
            | none => (.keep, 5)
          | false => (.keep, 4)
  | false => match o.k == 1 with
    | true => match findI o.s.snd es 0 with
      | some i => (.drop i, 1)
      | none => (.same, 0)
    | false => match o.k == 2 with
      | true => (.clear, 0)
      | false => (.keep, 0)
theorem isPtrs_F : ∀ (n k : Nat), isPtrs k (ptrsF k n) = true
  | 0, k => rfl
  | n + 1, k => by
    show (Nat.beq k k && Nat.beq 0 0 && Nat.beq 0 0 && Nat.beq 0 0 && isPtrs (k + 1) (ptrsF (k + 1) n)) = true
    rw [isPtrs_F n (k + 1), Nat.beq_refl]
    rfl
theorem ptrsF_len : ∀ (n k : Nat), (ptrsF k n).length = n
  | 0, k => rfl
  | n + 1, k => by
    show (ptrsF (k + 1) n).length + 1 = _
    rw [ptrsF_len n (k + 1)]
theorem entsP_map : ∀ es : TabE, entsP (es.map fun x => x.1.v) (es.map fun x => Body.cells x.2.vs) = some es
  | [] => rfl
  | e :: r => by
    show (match Prt.of e.1.v, Ent.of e.2.vs, entsP (r.map fun x => x.1.v) (r.map fun x => Body.cells x.2.vs) with
      | some p, some e, some r => some ((p, e) :: r)
      | _, _, _ => none) = _
    rw [entsP_map r]
    rfl
theorem tabP_tabB (own : Ck) (win : Int) (es : TabE) : tabP (tabB own win es) = some (own, win, es) := by
  show (match isPtrs 2 (ptrsF 2 es.length) && Nat.beq (ptrsF 2 es.length).length (es.map fun x => x.1.v).length, entsP (es.map fun x => x.1.v) (es.map fun x => Body.cells x.2.vs) with
      | true, some es => some (own, win, es)
      | _, _ => none) = _
  rw [isPtrs_F, ptrsF_len, List.length_map, Nat.beq_refl, entsP_map]
  rfl
theorem minE_mem (es : TabE) : ∀ (l : List Prt) (m : Prt), minE es m l ∈ m :: l
  | [], m => by simp [minE]
  | x :: r, m => by
    rw [minE]
    split
    · have := minE_mem es r x
      simp only [List.mem_cons] at this ⊢
      exact .inr this
    · have := minE_mem es r m
      simp only [List.mem_cons] at this ⊢
      rcases this with h | h
      · exact .inl h
      · exact .inr (.inr h)
theorem ovP_mem {srt : List Prt → List Prt} (hsrt : ∀ l, srt l = isoL l) {es : TabE} {win now : Int} (h : ovB srt es win now = true) : ovP srt es win now ∈ es.map (·.1) := by
  have hp : (srt (es.map (·.1))).Perm (es.map (·.1)) := by rw [hsrt]; exact isoL_perm _
  unfold ovP
  unfold ovB at h
  cases hF : overL srt es win now with
  | nil => rw [hF] at h; cases h
  | cons y l =>
    have hy : minE es y l ∈ overL srt es win now := by rw [hF]; exact minE_mem es l y
    exact hp.mem_iff.1 (List.mem_filter.1 hy).1
theorem doU_ok {srt : List Prt → List Prt} (hsrt : ∀ l, srt l = isoL l) (own : Ck) (win : Int) (es : TabE) (o : Opp) (hn : es.length ≤ 5) :
    ((doS srt) [.ptr 0 0 0 0, o.v] (tabB own win es)).denN = some (Res.nrm ((doU srt own win es o).1.res es (doU srt own win es o).2)) := by
  have e0 : (doS srt) [.ptr 0 0 0 0, o.v] (tabB own win es) = Tree.lit (Nat.ble es.length 5) (doR srt own win es o) := by
    unfold doS
    simp only [tabP_tabB]
    rfl
  rw [e0, Nat.ble_eq.mpr hn]
  show (doR srt own win es o).denN = _
  unfold doR doU heR
  simp only [denN_ite, chain_den, denN_leaf]
  cases o.k == 0 with
  | true =>
    cases badB own o.s o.now with
    | true => rfl
    | false =>
      dsimp only
      cases findI o.s.snd es 0 with
      | some i =>
        dsimp only
        cases decide ((es.getD i default).2.t0 > o.now) <;> rfl
      | none =>
        dsimp only
        cases Nat.ble 5 es.length with
        | false => rfl
        | true =>
          dsimp only
          rw [denN_ite, chain_den]
          cases hov : ovB srt es win o.now with
          | false => rfl
          | true =>
            cases hf : findI (ovP srt es win o.now) es 0 with
            | some i => rfl
            | none =>
              have := ovP_mem hsrt hov
              rw [List.mem_map] at this
              obtain ⟨x, hx, he⟩ := this
              exact absurd he (find_none hf x hx)
  | false =>
    cases o.k == 1 with
    | true =>
      show (match findI o.s.snd es 0 with | some i => _ | none => _) = _
      cases findI o.s.snd es 0 <;> rfl
    | false =>
      cases o.k == 2 <;> rfl
theorem doU_okU {srt : List Prt → List Prt} (own : Ck) (win : Int) (es : TabE) (o : Opp) (hn : es.length ≤ 5) : (doU srt own win es o).1.okU es.length ∧ ((doU srt own win es o).1.tab es).length ≤ 5 := by
  unfold doU
  cases o.k == 0 with
  | true =>
    cases badB own o.s o.now with
    | true => exact ⟨trivial, hn⟩
    | false =>
      cases hf : findI o.s.snd es 0 with
      | some i =>
        obtain ⟨_, h2, _⟩ := find_some hf
        dsimp only
        cases decide ((es.getD i default).2.t0 > o.now) with
        | true => exact ⟨trivial, hn⟩
        | false => exact ⟨by show i < es.length; omega, by show (es.set i _).length ≤ 5; rw [List.length_set]; exact hn⟩
      | none =>
        dsimp only
        cases hb : Nat.ble 5 es.length with
        | false =>
          have : es.length < 5 := by
            rcases Nat.lt_or_ge es.length 5 with h | h
            · exact h
            · rw [Nat.ble_eq.mpr h] at hb; cases hb
          exact ⟨this, by show (es ++ [_]).length ≤ 5; rw [List.length_append, List.length_singleton]; omega⟩
        | true =>
          cases ovB srt es win o.now with
          | false => exact ⟨trivial, hn⟩
          | true =>
            cases hg : findI (ovP srt es win o.now) es 0 with
            | none => exact ⟨trivial, hn⟩
            | some i =>
              obtain ⟨_, h2, _⟩ := find_some hg
              refine ⟨by show i < es.length; omega, ?_⟩
              show (es.eraseIdx i ++ [_]).length ≤ 5
              rw [List.length_append, List.length_singleton, List.length_eraseIdx_of_lt (by omega)]
              omega
  | false =>
    cases o.k == 1 with
    | true =>
      cases hf : findI o.s.snd es 0 with
      | none => exact ⟨trivial, hn⟩
      | some i =>
        obtain ⟨_, h2, _⟩ := find_some hf
        refine ⟨by show i < es.length; omega, ?_⟩
        show (es.eraseIdx i).length ≤ 5
        rw [List.length_eraseIdx_of_lt (by omega)]
        omega
    | false =>
      cases o.k == 2 with
      | true => exact ⟨trivial, Nat.zero_le _⟩
      | false => exact ⟨trivial, hn⟩
end Go.Proofs.Ytgdalboilghciaa

set_option maxRecDepth 100000
set_option linter.unusedSimpArgs false
set_option linter.unusedVariables false
namespace Go.Proofs.Ytgdalboilghciaa
open Go.Rx
abbrev opK : List K := [.int .i64, .int .i64, .int .i64, .int .i64, .int .i64, .int .i64, .int .i64, .int .u8, .int .u8, .int .u8, .int .u8, .int .u8, .int .u8, .int .u8, .int .u8, .int .i64, .int .u8, .int .u8, .int .u8, .int .u8, .int .u8, .int .u8, .int .u8, .int .u8, .int .i64, .int .u8, .int .u8, .int .u8, .int .u8, .int .u8, .int .u8, .int .u8, .int .u8, .int .i64]
def rowO (r : List V) : Opp := ⟨(V.toInt (r.getD 0 V.any)), (V.toInt (r.getD 1 V.any)), ⟨(V.toInt (r.getD 2 V.any)), (V.toInt (r.getD 3 V.any)), ⟨(V.toInt (r.getD 4 V.any)), (V.toInt (r.getD 5 V.any)), (V.toInt (r.getD 6 V.any))⟩, ⟨(V.toInt (r.getD 7 V.any)), (V.toInt (r.getD 8 V.any)), (V.toInt (r.getD 9 V.any)), (V.toInt (r.getD 10 V.any)), (V.toInt (r.getD 11 V.any)), (V.toInt (r.getD 12 V.any)), (V.toInt (r.getD 13 V.any)), (V.toInt (r.getD 14 V.any))⟩, (V.toInt (r.getD 15 V.any)), ⟨⟨(V.toInt (r.getD 16 V.any)), (V.toInt (r.getD 17 V.any)), (V.toInt (r.getD 18 V.any)), (V.toInt (r.getD 19 V.any)), (V.toInt (r.getD 20 V.any)), (V.toInt (r.getD 21 V.any)), (V.toInt (r.getD 22 V.any)), (V.toInt (r.getD 23 V.any))⟩, (V.toInt (r.getD 24 V.any))⟩, ⟨⟨(V.toInt (r.getD 25 V.any)), (V.toInt (r.getD 26 V.any)), (V.toInt (r.getD 27 V.any)), (V.toInt (r.getD 28 V.any)), (V.toInt (r.getD 29 V.any)), (V.toInt (r.getD 30 V.any)), (V.toInt (r.getD 31 V.any)), (V.toInt (r.getD 32 V.any))⟩, (V.toInt (r.getD 33 V.any))⟩⟩⟩
theorem rowO_vs (o : Opp) : rowO o.vs = o := rfl
abbrev epV (last : Int) (n : Nat) (i : Int) : List V := [.ptr 0 0 0 0, .ptr 1 0 0 0, .int .i64 last, .sl 2 0 0 34 n none, .int .i64 (n : Int), .int .i64 i]
abbrev epB (own' : Ck) (ev : Int) (own : Ck) (win : Int) (rs : List (List V)) (es : TabE) : List Blk := Body.cells (own'.vs ++ [.int .i64 ev]) :: tabC 3 own win :: Body.rows opK rs :: tabM 3 es
noncomputable abbrev epG (A : List V) (B : List Blk) (R : Res) : List (Nat × Rx.Spec) := [(10, alS), (14, orS A B R)]
noncomputable abbrev epRd (A : List V) (B : List Blk) (R : Res) (vals : List V) (bs : List Blk) : Tree LRes := evRound P (specsOf (epG A B R)) (loopsOf []) 60 [2, 5, 7, 30, 31, 32] [4, 7] (loopAt Try.f6 0) vals bs
def epL (last now : Int) (n : Nat) (i : Int) (es : TabE) (u : Up) : LRes := ⟨.nrm, epV (max last now) n (IntKind.i64.wrap (i + 1)), none :: none :: none :: u.upd 3 es, u.news⟩
def epF (last : Int) (n : Nat) : LRes := ⟨.ret, [.tru, .int .i64 last], List.replicate (n + 4) none, []⟩
def epE (last : Int) (n : Nat) : LRes := ⟨.exit 0, [.any, .int .i64 last], List.replicate (n + 4) none, []⟩
noncomputable def epX (n : Nat) (i : Int) (rs : List (List V)) (now : Int) (q : Bool) (L R E : LRes) : Tree LRes :=
  .ite (decide (i < (n : Int))) (.ite (decide (0 ≤ i) && decide (i < (n : Int))) (.ite (decide (0 + i.toNat < rs.length)) (.ite (decide (now > 1152921504606846976)) (.leaf R) (.ite q (.leaf L) .fail)) .fail) .fail) (.leaf E)
/-- A round, with the call answered so. -/
def EpFacts (own' : Ck) (ev : Int) (own : Ck) (win : Int) (rs : List (List V)) (n : Nat) (i : Int) (o : Opp) (t last : Int) (es : TabE) (u : Up) : Prop :=
  Tree.den (epRd [.ptr 0 0 0 0, o.v] (tabB own win es) (Up.res es t u) (epV last n i) (epB own' ev own win rs es)) = Tree.den (epX n i rs (rowO (rs.getD (0 + i.toNat) [])).now (eqAB [.ptr 0 0 0 0, (rowO (rs.getD (0 + i.toNat) [])).v] [.ptr 0 0 0 0, o.v] (tabB own win es) (tabB own win es))
      (epL last (rowO (rs.getD (0 + i.toNat) [])).now n i es u) (epF last es.length) (epE last es.length)) ∧
  (∀ now, seqOk (epB own' ev own win rs es) (epL last now n i es u) = true ∧ seqVals (epB own' ev own win rs es) (epL last now n i es u) = epV (max last now) n (IntKind.i64.wrap (i + 1)) ∧ seqBlks (epB own' ev own win rs es) (epL last now n i es u) = epB own' ev own win rs (u.tab es) ∧
  [0, 1, 2].all (keptB (epL last now n i es u).upd) = true ∧ (List.range 4).all (fun b => (seqLs (epB own' ev own win rs es) (epL last now n i es u))[b]? == some b) = true ∧ (epL last now n i es u).upd.all notGone = true)
end Go.Proofs.Ytgdalboilghciaa

set_option maxRecDepth 100000
set_option linter.unusedSimpArgs false
set_option linter.unusedVariables false
namespace Go.Proofs.Ytgdalboilghciaa
open Go.Rx
theorem ep_0_keep (ow : Ck) (ev : Int) (own : Ck) (win : Int) (rs : List (List V)) (n : Nat) (i : Int) (o : Opp) (t last : Int)  : EpFacts ow ev own win rs n i o t last [] .keep := ⟨by kernel_rfl, fun now => ⟨by kernel_rfl, by kernel_rfl, by kernel_rfl, by kernel_rfl, by kernel_rfl, by kernel_rfl⟩⟩
theorem ep_0_same (ow : Ck) (ev : Int) (own : Ck) (win : Int) (rs : List (List V)) (n : Nat) (i : Int) (o : Opp) (t last : Int)  : EpFacts ow ev own win rs n i o t last [] .same := ⟨by kernel_rfl, fun now => ⟨by kernel_rfl, by kernel_rfl, by kernel_rfl, by kernel_rfl, by kernel_rfl, by kernel_rfl⟩⟩
theorem ep_0_clear (ow : Ck) (ev : Int) (own : Ck) (win : Int) (rs : List (List V)) (n : Nat) (i : Int) (o : Opp) (t last : Int)  : EpFacts ow ev own win rs n i o t last [] .clear := ⟨by kernel_rfl, fun now => ⟨by kernel_rfl, by kernel_rfl, by kernel_rfl, by kernel_rfl, by kernel_rfl, by kernel_rfl⟩⟩
theorem ep_0_app (ow : Ck) (ev : Int) (own : Ck) (win : Int) (rs : List (List V)) (n : Nat) (i : Int) (o : Opp) (t last : Int)  (p : Prt) (e : Ent) : EpFacts ow ev own win rs n i o t last [] (.app p e) := ⟨by kernel_rfl, fun now => ⟨by kernel_rfl, by kernel_rfl, by kernel_rfl, by kernel_rfl, by kernel_rfl, by kernel_rfl⟩⟩
theorem epn_0 (ow : Ck) (ev : Int) (own : Ck) (win : Int) (rs : List (List V)) (n : Nat) (i : Int) (o : Opp) (t last : Int)  (u : Up) (hu : u.okU 0) : EpFacts ow ev own win rs n i o t last [] u := by
  cases u with
  | keep => exact ep_0_keep ow ev own win rs n i o t last  
  | same => exact ep_0_same ow ev own win rs n i o t last  
  | clear => exact ep_0_clear ow ev own win rs n i o t last  
  | set i e =>
    exact absurd hu (Nat.not_lt_zero _)
  | drop i =>
    exact absurd hu (Nat.not_lt_zero _)
  | app p e => exact ep_0_app ow ev own win rs n i o t last   p e
  | evi i p e =>
    exact absurd hu (Nat.not_lt_zero _)
end Go.Proofs.Ytgdalboilghciaa

set_option maxRecDepth 100000
set_option linter.unusedSimpArgs false
set_option linter.unusedVariables false
namespace Go.Proofs.Ytgdalboilghciaa
open Go.Rx
theorem ep_1_keep (ow : Ck) (ev : Int) (own : Ck) (win : Int) (rs : List (List V)) (n : Nat) (i : Int) (o : Opp) (t last : Int) (p0 : Prt) (e0 : Ent) : EpFacts ow ev own win rs n i o t last [(p0, e0)] .keep := ⟨by kernel_rfl, fun now => ⟨by kernel_rfl, by kernel_rfl, by kernel_rfl, by kernel_rfl, by kernel_rfl, by kernel_rfl⟩⟩
theorem ep_1_same (ow : Ck) (ev : Int) (own : Ck) (win : Int) (rs : List (List V)) (n : Nat) (i : Int) (o : Opp) (t last : Int) (p0 : Prt) (e0 : Ent) : EpFacts ow ev own win rs n i o t last [(p0, e0)] .same := ⟨by kernel_rfl, fun now => ⟨by kernel_rfl, by kernel_rfl, by kernel_rfl, by kernel_rfl, by kernel_rfl, by kernel_rfl⟩⟩
theorem ep_1_clear (ow : Ck) (ev : Int) (own : Ck) (win : Int) (rs : List (List V)) (n : Nat) (i : Int) (o : Opp) (t last : Int) (p0 : Prt) (e0 : Ent) : EpFacts ow ev own win rs n i o t last [(p0, e0)] .clear := ⟨by kernel_rfl, fun now => ⟨by kernel_rfl, by kernel_rfl, by kernel_rfl, by kernel_rfl, by kernel_rfl, by kernel_rfl⟩⟩
theorem ep_1_set0 (ow : Ck) (ev : Int) (own : Ck) (win : Int) (rs : List (List V)) (n : Nat) (i : Int) (o : Opp) (t last : Int) (p0 : Prt) (e0 : Ent) (e : Ent) : EpFacts ow ev own win rs n i o t last [(p0, e0)] (.set 0 e) := ⟨by kernel_rfl, fun now => ⟨by kernel_rfl, by kernel_rfl, by kernel_rfl, by kernel_rfl, by kernel_rfl, by kernel_rfl⟩⟩
theorem ep_1_drop0 (ow : Ck) (ev : Int) (own : Ck) (win : Int) (rs : List (List V)) (n : Nat) (i : Int) (o : Opp) (t last : Int) (p0 : Prt) (e0 : Ent) : EpFacts ow ev own win rs n i o t last [(p0, e0)] (.drop 0) := ⟨by kernel_rfl, fun now => ⟨by kernel_rfl, by kernel_rfl, by kernel_rfl, by kernel_rfl, by kernel_rfl, by kernel_rfl⟩⟩
theorem ep_1_app (ow : Ck) (ev : Int) (own : Ck) (win : Int) (rs : List (List V)) (n : Nat) (i : Int) (o : Opp) (t last : Int) (p0 : Prt) (e0 : Ent) (p : Prt) (e : Ent) : EpFacts ow ev own win rs n i o t last [(p0, e0)] (.app p e) := ⟨by kernel_rfl, fun now => ⟨by kernel_rfl, by kernel_rfl, by kernel_rfl, by kernel_rfl, by kernel_rfl, by kernel_rfl⟩⟩
theorem ep_1_evi0 (ow : Ck) (ev : Int) (own : Ck) (win : Int) (rs : List (List V)) (n : Nat) (i : Int) (o : Opp) (t last : Int) (p0 : Prt) (e0 : Ent) (p : Prt) (e : Ent) : EpFacts ow ev own win rs n i o t last [(p0, e0)] (.evi 0 p e) := ⟨by kernel_rfl, fun now => ⟨by kernel_rfl, by kernel_rfl, by kernel_rfl, by kernel_rfl, by kernel_rfl, by kernel_rfl⟩⟩
theorem epn_1 (ow : Ck) (ev : Int) (own : Ck) (win : Int) (rs : List (List V)) (n : Nat) (i : Int) (o : Opp) (t last : Int) (p0 : Prt) (e0 : Ent) (u : Up) (hu : u.okU 1) : EpFacts ow ev own win rs n i o t last [(p0, e0)] u := by
  cases u with
  | keep => exact ep_1_keep ow ev own win rs n i o t last p0 e0
  | same => exact ep_1_same ow ev own win rs n i o t last p0 e0
  | clear => exact ep_1_clear ow ev own win rs n i o t last p0 e0
  | set i e =>
    obtain rfl : i = 0 := by
      have : i < 1 := hu
      omega
    · exact ep_1_set0 ow ev own win rs n i o t last p0 e0 e
  | drop i =>
    obtain rfl : i = 0 := by
      have : i < 1 := hu
      omega
    · exact ep_1_drop0 ow ev own win rs n i o t last p0 e0
  | app p e => exact ep_1_app ow ev own win rs n i o t last p0 e0 p e
  | evi i p e =>
    obtain rfl : i = 0 := by
      have : i < 1 := hu
      omega
    · exact ep_1_evi0 ow ev own win rs n i o t last p0 e0 p e
end Go.Proofs.Ytgdalboilghciaa

set_option maxRecDepth 100000
set_option linter.unusedSimpArgs false
set_option linter.unusedVariables false
namespace Go.Proofs.Ytgdalboilghciaa
open Go.Rx
theorem ep_2_keep (ow : Ck) (ev : Int) (own : Ck) (win : Int) (rs : List (List V)) (n : Nat) (i : Int) (o : Opp) (t last : Int) (p0 p1 : Prt) (e0 e1 : Ent) : EpFacts ow ev own win rs n i o t last [(p0, e0), (p1, e1)] .keep := ⟨by kernel_rfl, fun now => ⟨by kernel_rfl, by kernel_rfl, by kernel_rfl, by kernel_rfl, by kernel_rfl, by kernel_rfl⟩⟩
theorem ep_2_same (ow : Ck) (ev : Int) (own : Ck) (win : Int) (rs : List (List V)) (n : Nat) (i : Int) (o : Opp) (t last : Int) (p0 p1 : Prt) (e0 e1 : Ent) : EpFacts ow ev own win rs n i o t last [(p0, e0), (p1, e1)] .same := ⟨by kernel_rfl, fun now => ⟨by kernel_rfl, by kernel_rfl, by kernel_rfl, by kernel_rfl, by kernel_rfl, by kernel_rfl⟩⟩
theorem ep_2_clear (ow : Ck) (ev : Int) (own : Ck) (win : Int) (rs : List (List V)) (n : Nat) (i : Int) (o : Opp) (t last : Int) (p0 p1 : Prt) (e0 e1 : Ent) : EpFacts ow ev own win rs n i o t last [(p0, e0), (p1, e1)] .clear := ⟨by kernel_rfl, fun now => ⟨by kernel_rfl, by kernel_rfl, by kernel_rfl, by kernel_rfl, by kernel_rfl, by kernel_rfl⟩⟩
theorem ep_2_set0 (ow : Ck) (ev : Int) (own : Ck) (win : Int) (rs : List (List V)) (n : Nat) (i : Int) (o : Opp) (t last : Int) (p0 p1 : Prt) (e0 e1 : Ent) (e : Ent) : EpFacts ow ev own win rs n i o t last [(p0, e0), (p1, e1)] (.set 0 e) := ⟨by kernel_rfl, fun now => ⟨by kernel_rfl, by kernel_rfl, by kernel_rfl, by kernel_rfl, by kernel_rfl, by kernel_rfl⟩⟩
theorem ep_2_drop0 (ow : Ck) (ev : Int) (own : Ck) (win : Int) (rs : List (List V)) (n : Nat) (i : Int) (o : Opp) (t last : Int) (p0 p1 : Prt) (e0 e1 : Ent) : EpFacts ow ev own win rs n i o t last [(p0, e0), (p1, e1)] (.drop 0) := ⟨by kernel_rfl, fun now => ⟨by kernel_rfl, by kernel_rfl, by kernel_rfl, by kernel_rfl, by kernel_rfl, by kernel_rfl⟩⟩
theorem ep_2_set1 (ow : Ck) (ev : Int) (own : Ck) (win : Int) (rs : List (List V)) (n : Nat) (i : Int) (o : Opp) (t last : Int) (p0 p1 : Prt) (e0 e1 : Ent) (e : Ent) : EpFacts ow ev own win rs n i o t last [(p0, e0), (p1, e1)] (.set 1 e) := ⟨by kernel_rfl, fun now => ⟨by kernel_rfl, by kernel_rfl, by kernel_rfl, by kernel_rfl, by kernel_rfl, by kernel_rfl⟩⟩
theorem ep_2_drop1 (ow : Ck) (ev : Int) (own : Ck) (win : Int) (rs : List (List V)) (n : Nat) (i : Int) (o : Opp) (t last : Int) (p0 p1 : Prt) (e0 e1 : Ent) : EpFacts ow ev own win rs n i o t last [(p0, e0), (p1, e1)] (.drop 1) := ⟨by kernel_rfl, fun now => ⟨by kernel_rfl, by kernel_rfl, by kernel_rfl, by kernel_rfl, by kernel_rfl, by kernel_rfl⟩⟩
theorem ep_2_app (ow : Ck) (ev : Int) (own : Ck) (win : Int) (rs : List (List V)) (n : Nat) (i : Int) (o : Opp) (t last : Int) (p0 p1 : Prt) (e0 e1 : Ent) (p : Prt) (e : Ent) : EpFacts ow ev own win rs n i o t last [(p0, e0), (p1, e1)] (.app p e) := ⟨by kernel_rfl, fun now => ⟨by kernel_rfl, by kernel_rfl, by kernel_rfl, by kernel_rfl, by kernel_rfl, by kernel_rfl⟩⟩
theorem ep_2_evi0 (ow : Ck) (ev : Int) (own : Ck) (win : Int) (rs : List (List V)) (n : Nat) (i : Int) (o : Opp) (t last : Int) (p0 p1 : Prt) (e0 e1 : Ent) (p : Prt) (e : Ent) : EpFacts ow ev own win rs n i o t last [(p0, e0), (p1, e1)] (.evi 0 p e) := ⟨by kernel_rfl, fun now => ⟨by kernel_rfl, by kernel_rfl, by kernel_rfl, by kernel_rfl, by kernel_rfl, by kernel_rfl⟩⟩
theorem ep_2_evi1 (ow : Ck) (ev : Int) (own : Ck) (win : Int) (rs : List (List V)) (n : Nat) (i : Int) (o : Opp) (t last : Int) (p0 p1 : Prt) (e0 e1 : Ent) (p : Prt) (e : Ent) : EpFacts ow ev own win rs n i o t last [(p0, e0), (p1, e1)] (.evi 1 p e) := ⟨by kernel_rfl, fun now => ⟨by kernel_rfl, by kernel_rfl, by kernel_rfl, by kernel_rfl, by kernel_rfl, by kernel_rfl⟩⟩
theorem epn_2 (ow : Ck) (ev : Int) (own : Ck) (win : Int) (rs : List (List V)) (n : Nat) (i : Int) (o : Opp) (t last : Int) (p0 p1 : Prt) (e0 e1 : Ent) (u : Up) (hu : u.okU 2) : EpFacts ow ev own win rs n i o t last [(p0, e0), (p1, e1)] u := by
  cases u with
  | keep => exact ep_2_keep ow ev own win rs n i o t last p0 p1 e0 e1
  | same => exact ep_2_same ow ev own win rs n i o t last p0 p1 e0 e1
  | clear => exact ep_2_clear ow ev own win rs n i o t last p0 p1 e0 e1
  | set i e =>
    obtain rfl | rfl : i = 0 ∨ i = 1 := by
      have : i < 2 := hu
      omega
    · exact ep_2_set0 ow ev own win rs n i o t last p0 p1 e0 e1 e
    · exact ep_2_set1 ow ev own win rs n i o t last p0 p1 e0 e1 e
  | drop i =>
    obtain rfl | rfl : i = 0 ∨ i = 1 := by
      have : i < 2 := hu
      omega
    · exact ep_2_drop0 ow ev own win rs n i o t last p0 p1 e0 e1
    · exact ep_2_drop1 ow ev own win rs n i o t last p0 p1 e0 e1
  | app p e => exact ep_2_app ow ev own win rs n i o t last p0 p1 e0 e1 p e
  | evi i p e =>
    obtain rfl | rfl : i = 0 ∨ i = 1 := by
      have : i < 2 := hu
      omega
    · exact ep_2_evi0 ow ev own win rs n i o t last p0 p1 e0 e1 p e
    · exact ep_2_evi1 ow ev own win rs n i o t last p0 p1 e0 e1 p e
end Go.Proofs.Ytgdalboilghciaa

set_option maxRecDepth 100000
set_option linter.unusedSimpArgs false
set_option linter.unusedVariables false
namespace Go.Proofs.Ytgdalboilghciaa
open Go.Rx
theorem ep_3_keep (ow : Ck) (ev : Int) (own : Ck) (win : Int) (rs : List (List V)) (n : Nat) (i : Int) (o : Opp) (t last : Int) (p0 p1 p2 : Prt) (e0 e1 e2 : Ent) : EpFacts ow ev own win rs n i o t last [(p0, e0), (p1, e1), (p2, e2)] .keep := ⟨by kernel_rfl, fun now => ⟨by kernel_rfl, by kernel_rfl, by kernel_rfl, by kernel_rfl, by kernel_rfl, by kernel_rfl⟩⟩
theorem ep_3_same (ow : Ck) (ev : Int) (own : Ck) (win : Int) (rs : List (List V)) (n : Nat) (i : Int) (o : Opp) (t last : Int) (p0 p1 p2 : Prt) (e0 e1 e2 : Ent) : EpFacts ow ev own win rs n i o t last [(p0, e0), (p1, e1), (p2, e2)] .same := ⟨by kernel_rfl, fun now => ⟨by kernel_rfl, by kernel_rfl, by kernel_rfl, by kernel_rfl, by kernel_rfl, by kernel_rfl⟩⟩
theorem ep_3_clear (ow : Ck) (ev : Int) (own : Ck) (win : Int) (rs : List (List V)) (n : Nat) (i : Int) (o : Opp) (t last : Int) (p0 p1 p2 : Prt) (e0 e1 e2 : Ent) : EpFacts ow ev own win rs n i o t last [(p0, e0), (p1, e1), (p2, e2)] .clear := ⟨by kernel_rfl, fun now => ⟨by kernel_rfl, by kernel_rfl, by kernel_rfl, by kernel_rfl, by kernel_rfl, by kernel_rfl⟩⟩
theorem ep_3_set0 (ow : Ck) (ev : Int) (own : Ck) (win : Int) (rs : List (List V)) (n : Nat) (i : Int) (o : Opp) (t last : Int) (p0 p1 p2 : Prt) (e0 e1 e2 : Ent) (e : Ent) : EpFacts ow ev own win rs n i o t last [(p0, e0), (p1, e1), (p2, e2)] (.set 0 e) := ⟨by kernel_rfl, fun now => ⟨by kernel_rfl, by kernel_rfl, by kernel_rfl, by kernel_rfl, by kernel_rfl, by kernel_rfl⟩⟩
theorem ep_3_drop0 (ow : Ck) (ev : Int) (own : Ck) (win : Int) (rs : List (List V)) (n : Nat) (i : Int) (o : Opp) (t last : Int) (p0 p1 p2 : Prt) (e0 e1 e2 : Ent) : EpFacts ow ev own win rs n i o t last [(p0, e0), (p1, e1), (p2, e2)] (.drop 0) := ⟨by kernel_rfl, fun now => ⟨by kernel_rfl, by kernel_rfl, by kernel_rfl, by kernel_rfl, by kernel_rfl, by kernel_rfl⟩⟩
theorem ep_3_set1 (ow : Ck) (ev : Int) (own : Ck) (win : Int) (rs : List (List V)) (n : Nat) (i : Int) (o : Opp) (t last : Int) (p0 p1 p2 : Prt) (e0 e1 e2 : Ent) (e : Ent) : EpFacts ow ev own win rs n i o t last [(p0, e0), (p1, e1), (p2, e2)] (.set 1 e) := ⟨by kernel_rfl, fun now => ⟨by kernel_rfl, by kernel_rfl, by kernel_rfl, by kernel_rfl, by kernel_rfl, by kernel_rfl⟩⟩
theorem ep_3_drop1 (ow : Ck) (ev : Int) (own : Ck) (win : Int) (rs : List (List V)) (n : Nat) (i : Int) (o : Opp) (t last : Int) (p0 p1 p2 : Prt) (e0 e1 e2 : Ent) : EpFacts ow ev own win rs n i o t last [(p0, e0), (p1, e1), (p2, e2)] (.drop 1) := ⟨by kernel_rfl, fun now => ⟨by kernel_rfl, by kernel_rfl, by kernel_rfl, by kernel_rfl, by kernel_rfl, by kernel_rfl⟩⟩
theorem ep_3_set2 (ow : Ck) (ev : Int) (own : Ck) (win : Int) (rs : List (List V)) (n : Nat) (i : Int) (o : Opp) (t last : Int) (p0 p1 p2 : Prt) (e0 e1 e2 : Ent) (e : Ent) : EpFacts ow ev own win rs n i o t last [(p0, e0), (p1, e1), (p2, e2)] (.set 2 e) := ⟨by kernel_rfl, fun now => ⟨by kernel_rfl, by kernel_rfl, by kernel_rfl, by kernel_rfl, by kernel_rfl, by kernel_rfl⟩⟩
theorem ep_3_drop2 (ow : Ck) (ev : Int) (own : Ck) (win : Int) (rs : List (List V)) (n : Nat) (i : Int) (o : Opp) (t last : Int) (p0 p1 p2 : Prt) (e0 e1 e2 : Ent) : EpFacts ow ev own win rs n i o t last [(p0, e0), (p1, e1), (p2, e2)] (.drop 2) := ⟨by kernel_rfl, fun now => ⟨by kernel_rfl, by kernel_rfl, by kernel_rfl, by kernel_rfl, by kernel_rfl, by kernel_rfl⟩⟩
theorem ep_3_app (ow : Ck) (ev : Int) (own : Ck) (win : Int) (rs : List (List V)) (n : Nat) (i : Int) (o : Opp) (t last : Int) (p0 p1 p2 : Prt) (e0 e1 e2 : Ent) (p : Prt) (e : Ent) : EpFacts ow ev own win rs n i o t last [(p0, e0), (p1, e1), (p2, e2)] (.app p e) := ⟨by kernel_rfl, fun now => ⟨by kernel_rfl, by kernel_rfl, by kernel_rfl, by kernel_rfl, by kernel_rfl, by kernel_rfl⟩⟩
theorem ep_3_evi0 (ow : Ck) (ev : Int) (own : Ck) (win : Int) (rs : List (List V)) (n : Nat) (i : Int) (o : Opp) (t last : Int) (p0 p1 p2 : Prt) (e0 e1 e2 : Ent) (p : Prt) (e : Ent) : EpFacts ow ev own win rs n i o t last [(p0, e0), (p1, e1), (p2, e2)] (.evi 0 p e) := ⟨by kernel_rfl, fun now => ⟨by kernel_rfl, by kernel_rfl, by kernel_rfl, by kernel_rfl, by kernel_rfl, by kernel_rfl⟩⟩
theorem ep_3_evi1 (ow : Ck) (ev : Int) (own : Ck) (win : Int) (rs : List (List V)) (n : Nat) (i : Int) (o : Opp) (t last : Int) (p0 p1 p2 : Prt) (e0 e1 e2 : Ent) (p : Prt) (e : Ent) : EpFacts ow ev own win rs n i o t last [(p0, e0), (p1, e1), (p2, e2)] (.evi 1 p e) := ⟨by kernel_rfl, fun now => ⟨by kernel_rfl, by kernel_rfl, by kernel_rfl, by kernel_rfl, by kernel_rfl, by kernel_rfl⟩⟩
theorem ep_3_evi2 (ow : Ck) (ev : Int) (own : Ck) (win : Int) (rs : List (List V)) (n : Nat) (i : Int) (o : Opp) (t last : Int) (p0 p1 p2 : Prt) (e0 e1 e2 : Ent) (p : Prt) (e : Ent) : EpFacts ow ev own win rs n i o t last [(p0, e0), (p1, e1), (p2, e2)] (.evi 2 p e) := ⟨by kernel_rfl, fun now => ⟨by kernel_rfl, by kernel_rfl, by kernel_rfl, by kernel_rfl, by kernel_rfl, by kernel_rfl⟩⟩
theorem epn_3 (ow : Ck) (ev : Int) (own : Ck) (win : Int) (rs : List (List V)) (n : Nat) (i : Int) (o : Opp) (t last : Int) (p0 p1 p2 : Prt) (e0 e1 e2 : Ent) (u : Up) (hu : u.okU 3) : EpFacts ow ev own win rs n i o t last [(p0, e0), (p1, e1), (p2, e2)] u := by
  cases u with
  | keep => exact ep_3_keep ow ev own win rs n i o t last p0 p1 p2 e0 e1 e2
  | same => exact ep_3_same ow ev own win rs n i o t last p0 p1 p2 e0 e1 e2
  | clear => exact ep_3_clear ow ev own win rs n i o t last p0 p1 p2 e0 e1 e2
  | set i e =>
    obtain rfl | rfl | rfl : i = 0 ∨ i = 1 ∨ i = 2 := by
      have : i < 3 := hu
      omega
    · exact ep_3_set0 ow ev own win rs n i o t last p0 p1 p2 e0 e1 e2 e
    · exact ep_3_set1 ow ev own win rs n i o t last p0 p1 p2 e0 e1 e2 e
    · exact ep_3_set2 ow ev own win rs n i o t last p0 p1 p2 e0 e1 e2 e
  | drop i =>
    obtain rfl | rfl | rfl : i = 0 ∨ i = 1 ∨ i = 2 := by
      have : i < 3 := hu
      omega
    · exact ep_3_drop0 ow ev own win rs n i o t last p0 p1 p2 e0 e1 e2
    · exact ep_3_drop1 ow ev own win rs n i o t last p0 p1 p2 e0 e1 e2
    · exact ep_3_drop2 ow ev own win rs n i o t last p0 p1 p2 e0 e1 e2
  | app p e => exact ep_3_app ow ev own win rs n i o t last p0 p1 p2 e0 e1 e2 p e
  | evi i p e =>
    obtain rfl | rfl | rfl : i = 0 ∨ i = 1 ∨ i = 2 := by
      have : i < 3 := hu
      omega
    · exact ep_3_evi0 ow ev own win rs n i o t last p0 p1 p2 e0 e1 e2 p e
    · exact ep_3_evi1 ow ev own win rs n i o t last p0 p1 p2 e0 e1 e2 p e
    · exact ep_3_evi2 ow ev own win rs n i o t last p0 p1 p2 e0 e1 e2 p e
end Go.Proofs.Ytgdalboilghciaa

set_option maxRecDepth 100000
set_option linter.unusedSimpArgs false
set_option linter.unusedVariables false
namespace Go.Proofs.Ytgdalboilghciaa
open Go.Rx
theorem ep_4_keep (ow : Ck) (ev : Int) (own : Ck) (win : Int) (rs : List (List V)) (n : Nat) (i : Int) (o : Opp) (t last : Int) (p0 p1 p2 p3 : Prt) (e0 e1 e2 e3 : Ent) : EpFacts ow ev own win rs n i o t last [(p0, e0), (p1, e1), (p2, e2), (p3, e3)] .keep := ⟨by kernel_rfl, fun now => ⟨by kernel_rfl, by kernel_rfl, by kernel_rfl, by kernel_rfl, by kernel_rfl, by kernel_rfl⟩⟩
theorem ep_4_same (ow : Ck) (ev : Int) (own : Ck) (win : Int) (rs : List (List V)) (n : Nat) (i : Int) (o : Opp) (t last : Int) (p0 p1 p2 p3 : Prt) (e0 e1 e2 e3 : Ent) : EpFacts ow ev own win rs n i o t last [(p0, e0), (p1, e1), (p2, e2), (p3, e3)] .same := ⟨by kernel_rfl, fun now => ⟨by kernel_rfl, by kernel_rfl, by kernel_rfl, by kernel_rfl, by kernel_rfl, by kernel_rfl⟩⟩
theorem ep_4_clear (ow : Ck) (ev : Int) (own : Ck) (win : Int) (rs : List (List V)) (n : Nat) (i : Int) (o : Opp) (t last : Int) (p0 p1 p2 p3 : Prt) (e0 e1 e2 e3 : Ent) : EpFacts ow ev own win rs n i o t last [(p0, e0), (p1, e1), (p2, e2), (p3, e3)] .clear := ⟨by kernel_rfl, fun now => ⟨by kernel_rfl, by kernel_rfl, by kernel_rfl, by kernel_rfl, by kernel_rfl, by kernel_rfl⟩⟩
theorem ep_4_set0 (ow : Ck) (ev : Int) (own : Ck) (win : Int) (rs : List (List V)) (n : Nat) (i : Int) (o : Opp) (t last : Int) (p0 p1 p2 p3 : Prt) (e0 e1 e2 e3 : Ent) (e : Ent) : EpFacts ow ev own win rs n i o t last [(p0, e0), (p1, e1), (p2, e2), (p3, e3)] (.set 0 e) := ⟨by kernel_rfl, fun now => ⟨by kernel_rfl, by kernel_rfl, by kernel_rfl, by kernel_rfl, by kernel_rfl, by kernel_rfl⟩⟩
theorem ep_4_drop0 (ow : Ck) (ev : Int) (own : Ck) (win : Int) (rs : List (List V)) (n : Nat) (i : Int) (o : Opp) (t last : Int) (p0 p1 p2 p3 : Prt) (e0 e1 e2 e3 : Ent) : EpFacts ow ev own win rs n i o t last [(p0, e0), (p1, e1), (p2, e2), (p3, e3)] (.drop 0) := ⟨by kernel_rfl, fun now => ⟨by kernel_rfl, by kernel_rfl, by kernel_rfl, by kernel_rfl, by kernel_rfl, by kernel_rfl⟩⟩
theorem ep_4_set1 (ow : Ck) (ev : Int) (own : Ck) (win : Int) (rs : List (List V)) (n : Nat) (i : Int) (o : Opp) (t last : Int) (p0 p1 p2 p3 : Prt) (e0 e1 e2 e3 : Ent) (e : Ent) : EpFacts ow ev own win rs n i o t last [(p0, e0), (p1, e1), (p2, e2), (p3, e3)] (.set 1 e) := ⟨by kernel_rfl, fun now => ⟨by kernel_rfl, by kernel_rfl, by kernel_rfl, by kernel_rfl, by kernel_rfl, by kernel_rfl⟩⟩
theorem ep_4_drop1 (ow : Ck) (ev : Int) (own : Ck) (win : Int) (rs : List (List V)) (n : Nat) (i : Int) (o : Opp) (t last : Int) (p0 p1 p2 p3 : Prt) (e0 e1 e2 e3 : Ent) : EpFacts ow ev own win rs n i o t last [(p0, e0), (p1, e1), (p2, e2), (p3, e3)] (.drop 1) := ⟨by kernel_rfl, fun now => ⟨by kernel_rfl, by kernel_rfl, by kernel_rfl, by kernel_rfl, by kernel_rfl, by kernel_rfl⟩⟩
theorem ep_4_set2 (ow : Ck) (ev : Int) (own : Ck) (win : Int) (rs : List (List V)) (n : Nat) (i : Int) (o : Opp) (t last : Int) (p0 p1 p2 p3 : Prt) (e0 e1 e2 e3 : Ent) (e : Ent) : EpFacts ow ev own win rs n i o t last [(p0, e0), (p1, e1), (p2, e2), (p3, e3)] (.set 2 e) := ⟨by kernel_rfl, fun now => ⟨by kernel_rfl, by kernel_rfl, by kernel_rfl, by kernel_rfl, by kernel_rfl, by kernel_rfl⟩⟩
theorem ep_4_drop2 (ow : Ck) (ev : Int) (own : Ck) (win : Int) (rs : List (List V)) (n : Nat) (i : Int) (o : Opp) (t last : Int) (p0 p1 p2 p3 : Prt) (e0 e1 e2 e3 : Ent) : EpFacts ow ev own win rs n i o t last [(p0, e0), (p1, e1), (p2, e2), (p3, e3)] (.drop 2) := ⟨by kernel_rfl, fun now => ⟨by kernel_rfl, by kernel_rfl, by kernel_rfl, by kernel_rfl, by kernel_rfl, by kernel_rfl⟩⟩
theorem ep_4_set3 (ow : Ck) (ev : Int) (own : Ck) (win : Int) (rs : List (List V)) (n : Nat) (i : Int) (o : Opp) (t last : Int) (p0 p1 p2 p3 : Prt) (e0 e1 e2 e3 : Ent) (e : Ent) : EpFacts ow ev own win rs n i o t last [(p0, e0), (p1, e1), (p2, e2), (p3, e3)] (.set 3 e) := ⟨by kernel_rfl, fun now => ⟨by kernel_rfl, by kernel_rfl, by kernel_rfl, by kernel_rfl, by kernel_rfl, by kernel_rfl⟩⟩
theorem ep_4_drop3 (ow : Ck) (ev : Int) (own : Ck) (win : Int) (rs : List (List V)) (n : Nat) (i : Int) (o : Opp) (t last : Int) (p0 p1 p2 p3 : Prt) (e0 e1 e2 e3 : Ent) : EpFacts ow ev own win rs n i o t last [(p0, e0), (p1, e1), (p2, e2), (p3, e3)] (.drop 3) := ⟨by kernel_rfl, fun now => ⟨by kernel_rfl, by kernel_rfl, by kernel_rfl, by kernel_rfl, by kernel_rfl, by kernel_rfl⟩⟩
theorem ep_4_app (ow : Ck) (ev : Int) (own : Ck) (win : Int) (rs : List (List V)) (n : Nat) (i : Int) (o : Opp) (t last : Int) (p0 p1 p2 p3 : Prt) (e0 e1 e2 e3 : Ent) (p : Prt) (e : Ent) : EpFacts ow ev own win rs n i o t last [(p0, e0), (p1, e1), (p2, e2), (p3, e3)] (.app p e) := ⟨by kernel_rfl, fun now => ⟨by kernel_rfl, by kernel_rfl, by kernel_rfl, by kernel_rfl, by kernel_rfl, by kernel_rfl⟩⟩
theorem ep_4_evi0 (ow : Ck) (ev : Int) (own : Ck) (win : Int) (rs : List (List V)) (n : Nat) (i : Int) (o : Opp) (t last : Int) (p0 p1 p2 p3 : Prt) (e0 e1 e2 e3 : Ent) (p : Prt) (e : Ent) : EpFacts ow ev own win rs n i o t last [(p0, e0), (p1, e1), (p2, e2), (p3, e3)] (.evi 0 p e) := ⟨by kernel_rfl, fun now => ⟨by kernel_rfl, by kernel_rfl, by kernel_rfl, by kernel_rfl, by kernel_rfl, by kernel_rfl⟩⟩
theorem ep_4_evi1 (ow : Ck) (ev : Int) (own : Ck) (win : Int) (rs : List (List V)) (n : Nat) (i : Int) (o : Opp) (t last : Int) (p0 p1 p2 p3 : Prt) (e0 e1 e2 e3 : Ent) (p : Prt) (e : Ent) : EpFacts ow ev own win rs n i o t last [(p0, e0), (p1, e1), (p2, e2), (p3, e3)] (.evi 1 p e) := ⟨by kernel_rfl, fun now => ⟨by kernel_rfl, by kernel_rfl, by kernel_rfl, by kernel_rfl, by kernel_rfl, by kernel_rfl⟩⟩
theorem ep_4_evi2 (ow : Ck) (ev : Int) (own : Ck) (win : Int) (rs : List (List V)) (n : Nat) (i : Int) (o : Opp) (t last : Int) (p0 p1 p2 p3 : Prt) (e0 e1 e2 e3 : Ent) (p : Prt) (e : Ent) : EpFacts ow ev own win rs n i o t last [(p0, e0), (p1, e1), (p2, e2), (p3, e3)] (.evi 2 p e) := ⟨by kernel_rfl, fun now => ⟨by kernel_rfl, by kernel_rfl, by kernel_rfl, by kernel_rfl, by kernel_rfl, by kernel_rfl⟩⟩
theorem ep_4_evi3 (ow : Ck) (ev : Int) (own : Ck) (win : Int) (rs : List (List V)) (n : Nat) (i : Int) (o : Opp) (t last : Int) (p0 p1 p2 p3 : Prt) (e0 e1 e2 e3 : Ent) (p : Prt) (e : Ent) : EpFacts ow ev own win rs n i o t last [(p0, e0), (p1, e1), (p2, e2), (p3, e3)] (.evi 3 p e) := ⟨by kernel_rfl, fun now => ⟨by kernel_rfl, by kernel_rfl, by kernel_rfl, by kernel_rfl, by kernel_rfl, by kernel_rfl⟩⟩
theorem epn_4 (ow : Ck) (ev : Int) (own : Ck) (win : Int) (rs : List (List V)) (n : Nat) (i : Int) (o : Opp) (t last : Int) (p0 p1 p2 p3 : Prt) (e0 e1 e2 e3 : Ent) (u : Up) (hu : u.okU 4) : EpFacts ow ev own win rs n i o t last [(p0, e0), (p1, e1), (p2, e2), (p3, e3)] u := by
  cases u with
  | keep => exact ep_4_keep ow ev own win rs n i o t last p0 p1 p2 p3 e0 e1 e2 e3
  | same => exact ep_4_same ow ev own win rs n i o t last p0 p1 p2 p3 e0 e1 e2 e3
  | clear => exact ep_4_clear ow ev own win rs n i o t last p0 p1 p2 p3 e0 e1 e2 e3
  | set i e =>
    obtain rfl | rfl | rfl | rfl : i = 0 ∨ i = 1 ∨ i = 2 ∨ i = 3 := by
      have : i < 4 := hu
      omega
    · exact ep_4_set0 ow ev own win rs n i o t last p0 p1 p2 p3 e0 e1 e2 e3 e
    · exact ep_4_set1 ow ev own win rs n i o t last p0 p1 p2 p3 e0 e1 e2 e3 e
    · exact ep_4_set2 ow ev own win rs n i o t last p0 p1 p2 p3 e0 e1 e2 e3 e
    · exact ep_4_set3 ow ev own win rs n i o t last p0 p1 p2 p3 e0 e1 e2 e3 e
  | drop i =>
    obtain rfl | rfl | rfl | rfl : i = 0 ∨ i = 1 ∨ i = 2 ∨ i = 3 := by
      have : i < 4 := hu
      omega
    · exact ep_4_drop0 ow ev own win rs n i o t last p0 p1 p2 p3 e0 e1 e2 e3
    · exact ep_4_drop1 ow ev own win rs n i o t last p0 p1 p2 p3 e0 e1 e2 e3
    · exact ep_4_drop2 ow ev own win rs n i o t last p0 p1 p2 p3 e0 e1 e2 e3
    · exact ep_4_drop3 ow ev own win rs n i o t last p0 p1 p2 p3 e0 e1 e2 e3
  | app p e => exact ep_4_app ow ev own win rs n i o t last p0 p1 p2 p3 e0 e1 e2 e3 p e
  | evi i p e =>
    obtain rfl | rfl | rfl | rfl : i = 0 ∨ i = 1 ∨ i = 2 ∨ i = 3 := by
      have : i < 4 := hu
      omega
    · exact ep_4_evi0 ow ev own win rs n i o t last p0 p1 p2 p3 e0 e1 e2 e3 p e
    · exact ep_4_evi1 ow ev own win rs n i o t last p0 p1 p2 p3 e0 e1 e2 e3 p e
    · exact ep_4_evi2 ow ev own win rs n i o t last p0 p1 p2 p3 e0 e1 e2 e3 p e
    · exact ep_4_evi3 ow ev own win rs n i o t last p0 p1 p2 p3 e0 e1 e2 e3 p e
end Go.Proofs.Ytgdalboilghciaa

set_option maxRecDepth 100000
set_option linter.unusedSimpArgs false
set_option linter.unusedVariables false
namespace Go.Proofs.Ytgdalboilghciaa
open Go.Rx
theorem ep_5_keep (ow : Ck) (ev : Int) (own : Ck) (win : Int) (rs : List (List V)) (n : Nat) (i : Int) (o : Opp) (t last : Int) (p0 p1 p2 p3 p4 : Prt) (e0 e1 e2 e3 e4 : Ent) : EpFacts ow ev own win rs n i o t last [(p0, e0), (p1, e1), (p2, e2), (p3, e3), (p4, e4)] .keep := ⟨by kernel_rfl, fun now => ⟨by kernel_rfl, by kernel_rfl, by kernel_rfl, by kernel_rfl, by kernel_rfl, by kernel_rfl⟩⟩
theorem ep_5_same (ow : Ck) (ev : Int) (own : Ck) (win : Int) (rs : List (List V)) (n : Nat) (i : Int) (o : Opp) (t last : Int) (p0 p1 p2 p3 p4 : Prt) (e0 e1 e2 e3 e4 : Ent) : EpFacts ow ev own win rs n i o t last [(p0, e0), (p1, e1), (p2, e2), (p3, e3), (p4, e4)] .same := ⟨by kernel_rfl, fun now => ⟨by kernel_rfl, by kernel_rfl, by kernel_rfl, by kernel_rfl, by kernel_rfl, by kernel_rfl⟩⟩
theorem ep_5_clear (ow : Ck) (ev : Int) (own : Ck) (win : Int) (rs : List (List V)) (n : Nat) (i : Int) (o : Opp) (t last : Int) (p0 p1 p2 p3 p4 : Prt) (e0 e1 e2 e3 e4 : Ent) : EpFacts ow ev own win rs n i o t last [(p0, e0), (p1, e1), (p2, e2), (p3, e3), (p4, e4)] .clear := ⟨by kernel_rfl, fun now => ⟨by kernel_rfl, by kernel_rfl, by kernel_rfl, by kernel_rfl, by kernel_rfl, by kernel_rfl⟩⟩
theorem ep_5_set0 (ow : Ck) (ev : Int) (own : Ck) (win : Int) (rs : List (List V)) (n : Nat) (i : Int) (o : Opp) (t last : Int) (p0 p1 p2 p3 p4 : Prt) (e0 e1 e2 e3 e4 : Ent) (e : Ent) : EpFacts ow ev own win rs n i o t last [(p0, e0), (p1, e1), (p2, e2), (p3, e3), (p4, e4)] (.set 0 e) := ⟨by kernel_rfl, fun now => ⟨by kernel_rfl, by kernel_rfl, by kernel_rfl, by kernel_rfl, by kernel_rfl, by kernel_rfl⟩⟩
theorem ep_5_drop0 (ow : Ck) (ev : Int) (own : Ck) (win : Int) (rs : List (List V)) (n : Nat) (i : Int) (o : Opp) (t last : Int) (p0 p1 p2 p3 p4 : Prt) (e0 e1 e2 e3 e4 : Ent) : EpFacts ow ev own win rs n i o t last [(p0, e0), (p1, e1), (p2, e2), (p3, e3), (p4, e4)] (.drop 0) := ⟨by kernel_rfl, fun now => ⟨by kernel_rfl, by kernel_rfl, by kernel_rfl, by kernel_rfl, by kernel_rfl, by kernel_rfl⟩⟩
theorem ep_5_set1 (ow : Ck) (ev : Int) (own : Ck) (win : Int) (rs : List (List V)) (n : Nat) (i : Int) (o : Opp) (t last : Int) (p0 p1 p2 p3 p4 : Prt) (e0 e1 e2 e3 e4 : Ent) (e : Ent) : EpFacts ow ev own win rs n i o t last [(p0, e0), (p1, e1), (p2, e2), (p3, e3), (p4, e4)] (.set 1 e) := ⟨by kernel_rfl, fun now => ⟨by kernel_rfl, by kernel_rfl, by kernel_rfl, by kernel_rfl, by kernel_rfl, by kernel_rfl⟩⟩
theorem ep_5_drop1 (ow : Ck) (ev : Int) (own : Ck) (win : Int) (rs : List (List V)) (n : Nat) (i : Int) (o : Opp) (t last : Int) (p0 p1 p2 p3 p4 : Prt) (e0 e1 e2 e3 e4 : Ent) : EpFacts ow ev own win rs n i o t last [(p0, e0), (p1, e1), (p2, e2), (p3, e3), (p4, e4)] (.drop 1) := ⟨by kernel_rfl, fun now => ⟨by kernel_rfl, by kernel_rfl, by kernel_rfl, by kernel_rfl, by kernel_rfl, by kernel_rfl⟩⟩
theorem ep_5_set2 (ow : Ck) (ev : Int) (own : Ck) (win : Int) (rs : List (List V)) (n : Nat) (i : Int) (o : Opp) (t last : Int) (p0 p1 p2 p3 p4 : Prt) (e0 e1 e2 e3 e4 : Ent) (e : Ent) : EpFacts ow ev own win rs n i o t last [(p0, e0), (p1, e1), (p2, e2), (p3, e3), (p4, e4)] (.set 2 e) := ⟨by kernel_rfl, fun now => ⟨by kernel_rfl, by kernel_rfl, by kernel_rfl, by kernel_rfl, by kernel_rfl, by kernel_rfl⟩⟩
theorem ep_5_drop2 (ow : Ck) (ev : Int) (own : Ck) (win : Int) (rs : List (List V)) (n : Nat) (i : Int) (o : Opp) (t last : Int) (p0 p1 p2 p3 p4 : Prt) (e0 e1 e2 e3 e4 : Ent) : EpFacts ow ev own win rs n i o t last [(p0, e0), (p1, e1), (p2, e2), (p3, e3), (p4, e4)] (.drop 2) := ⟨by kernel_rfl, fun now => ⟨by kernel_rfl, by kernel_rfl, by kernel_rfl, by kernel_rfl, by kernel_rfl, by kernel_rfl⟩⟩
theorem ep_5_set3 (ow : Ck) (ev : Int) (own : Ck) (win : Int) (rs : List (List V)) (n : Nat) (i : Int) (o : Opp) (t last : Int) (p0 p1 p2 p3 p4 : Prt) (e0 e1 e2 e3 e4 : Ent) (e : Ent) : EpFacts ow ev own win rs n i o t last [(p0, e0), (p1, e1), (p2, e2), (p3, e3), (p4, e4)] (.set 3 e) := ⟨by kernel_rfl, fun now => ⟨by kernel_rfl, by kernel_rfl, by kernel_rfl, by kernel_rfl, by kernel_rfl, by kernel_rfl⟩⟩
theorem ep_5_drop3 (ow : Ck) (ev : Int) (own : Ck) (win : Int) (rs : List (List V)) (n : Nat) (i : Int) (o : Opp) (t last : Int) (p0 p1 p2 p3 p4 : Prt) (e0 e1 e2 e3 e4 : Ent) : EpFacts ow ev own win rs n i o t last [(p0, e0), (p1, e1), (p2, e2), (p3, e3), (p4, e4)] (.drop 3) := ⟨by kernel_rfl, fun now => ⟨by kernel_rfl, by kernel_rfl, by kernel_rfl, by kernel_rfl, by kernel_rfl, by kernel_rfl⟩⟩
theorem ep_5_set4 (ow : Ck) (ev : Int) (own : Ck) (win : Int) (rs : List (List V)) (n : Nat) (i : Int) (o : Opp) (t last : Int) (p0 p1 p2 p3 p4 : Prt) (e0 e1 e2 e3 e4 : Ent) (e : Ent) : EpFacts ow ev own win rs n i o t last [(p0, e0), (p1, e1), (p2, e2), (p3, e3), (p4, e4)] (.set 4 e) := ⟨by kernel_rfl, fun now => ⟨by kernel_rfl, by kernel_rfl, by kernel_rfl, by kernel_rfl, by kernel_rfl, by kernel_rfl⟩⟩
theorem ep_5_drop4 (ow : Ck) (ev : Int) (own : Ck) (win : Int) (rs : List (List V)) (n : Nat) (i : Int) (o : Opp) (t last : Int) (p0 p1 p2 p3 p4 : Prt) (e0 e1 e2 e3 e4 : Ent) : EpFacts ow ev own win rs n i o t last [(p0, e0), (p1, e1), (p2, e2), (p3, e3), (p4, e4)] (.drop 4) := ⟨by kernel_rfl, fun now => ⟨by kernel_rfl, by kernel_rfl, by kernel_rfl, by kernel_rfl, by kernel_rfl, by kernel_rfl⟩⟩
theorem ep_5_evi0 (ow : Ck) (ev : Int) (own : Ck) (win : Int) (rs : List (List V)) (n : Nat) (i : Int) (o : Opp) (t last : Int) (p0 p1 p2 p3 p4 : Prt) (e0 e1 e2 e3 e4 : Ent) (p : Prt) (e : Ent) : EpFacts ow ev own win rs n i o t last [(p0, e0), (p1, e1), (p2, e2), (p3, e3), (p4, e4)] (.evi 0 p e) := ⟨by kernel_rfl, fun now => ⟨by kernel_rfl, by kernel_rfl, by kernel_rfl, by kernel_rfl, by kernel_rfl, by kernel_rfl⟩⟩
theorem ep_5_evi1 (ow : Ck) (ev : Int) (own : Ck) (win : Int) (rs : List (List V)) (n : Nat) (i : Int) (o : Opp) (t last : Int) (p0 p1 p2 p3 p4 : Prt) (e0 e1 e2 e3 e4 : Ent) (p : Prt) (e : Ent) : EpFacts ow ev own win rs n i o t last [(p0, e0), (p1, e1), (p2, e2), (p3, e3), (p4, e4)] (.evi 1 p e) := ⟨by kernel_rfl, fun now => ⟨by kernel_rfl, by kernel_rfl, by kernel_rfl, by kernel_rfl, by kernel_rfl, by kernel_rfl⟩⟩
theorem ep_5_evi2 (ow : Ck) (ev : Int) (own : Ck) (win : Int) (rs : List (List V)) (n : Nat) (i : Int) (o : Opp) (t last : Int) (p0 p1 p2 p3 p4 : Prt) (e0 e1 e2 e3 e4 : Ent) (p : Prt) (e : Ent) : EpFacts ow ev own win rs n i o t last [(p0, e0), (p1, e1), (p2, e2), (p3, e3), (p4, e4)] (.evi 2 p e) := ⟨by kernel_rfl, fun now => ⟨by kernel_rfl, by kernel_rfl, by kernel_rfl, by kernel_rfl, by kernel_rfl, by kernel_rfl⟩⟩
theorem ep_5_evi3 (ow : Ck) (ev : Int) (own : Ck) (win : Int) (rs : List (List V)) (n : Nat) (i : Int) (o : Opp) (t last : Int) (p0 p1 p2 p3 p4 : Prt) (e0 e1 e2 e3 e4 : Ent) (p : Prt) (e : Ent) : EpFacts ow ev own win rs n i o t last [(p0, e0), (p1, e1), (p2, e2), (p3, e3), (p4, e4)] (.evi 3 p e) := ⟨by kernel_rfl, fun now => ⟨by kernel_rfl, by kernel_rfl, by kernel_rfl, by kernel_rfl, by kernel_rfl, by kernel_rfl⟩⟩
theorem ep_5_evi4 (ow : Ck) (ev : Int) (own : Ck) (win : Int) (rs : List (List V)) (n : Nat) (i : Int) (o : Opp) (t last : Int) (p0 p1 p2 p3 p4 : Prt) (e0 e1 e2 e3 e4 : Ent) (p : Prt) (e : Ent) : EpFacts ow ev own win rs n i o t last [(p0, e0), (p1, e1), (p2, e2), (p3, e3), (p4, e4)] (.evi 4 p e) := ⟨by kernel_rfl, fun now => ⟨by kernel_rfl, by kernel_rfl, by kernel_rfl, by kernel_rfl, by kernel_rfl, by kernel_rfl⟩⟩
theorem epn_5 (ow : Ck) (ev : Int) (own : Ck) (win : Int) (rs : List (List V)) (n : Nat) (i : Int) (o : Opp) (t last : Int) (p0 p1 p2 p3 p4 : Prt) (e0 e1 e2 e3 e4 : Ent) (u : Up) (hu : u.okU 5) : EpFacts ow ev own win rs n i o t last [(p0, e0), (p1, e1), (p2, e2), (p3, e3), (p4, e4)] u := by
  cases u with
  | keep => exact ep_5_keep ow ev own win rs n i o t last p0 p1 p2 p3 p4 e0 e1 e2 e3 e4
  | same => exact ep_5_same ow ev own win rs n i o t last p0 p1 p2 p3 p4 e0 e1 e2 e3 e4
  | clear => exact ep_5_clear ow ev own win rs n i o t last p0 p1 p2 p3 p4 e0 e1 e2 e3 e4
  | set i e =>
    obtain rfl | rfl | rfl | rfl | rfl : i = 0 ∨ i = 1 ∨ i = 2 ∨ i = 3 ∨ i = 4 := by
      have : i < 5 := hu
      omega
    · exact ep_5_set0 ow ev own win rs n i o t last p0 p1 p2 p3 p4 e0 e1 e2 e3 e4 e
    · exact ep_5_set1 ow ev own win rs n i o t last p0 p1 p2 p3 p4 e0 e1 e2 e3 e4 e
    · exact ep_5_set2 ow ev own win rs n i o t last p0 p1 p2 p3 p4 e0 e1 e2 e3 e4 e
    · exact ep_5_set3 ow ev own win rs n i o t last p0 p1 p2 p3 p4 e0 e1 e2 e3 e4 e
    · exact ep_5_set4 ow ev own win rs n i o t last p0 p1 p2 p3 p4 e0 e1 e2 e3 e4 e
  | drop i =>
    obtain rfl | rfl | rfl | rfl | rfl : i = 0 ∨ i = 1 ∨ i = 2 ∨ i = 3 ∨ i = 4 := by
      have : i < 5 := hu
      omega
    · exact ep_5_drop0 ow ev own win rs n i o t last p0 p1 p2 p3 p4 e0 e1 e2 e3 e4
    · exact ep_5_drop1 ow ev own win rs n i o t last p0 p1 p2 p3 p4 e0 e1 e2 e3 e4
    · exact ep_5_drop2 ow ev own win rs n i o t last p0 p1 p2 p3 p4 e0 e1 e2 e3 e4
    · exact ep_5_drop3 ow ev own win rs n i o t last p0 p1 p2 p3 p4 e0 e1 e2 e3 e4
    · exact ep_5_drop4 ow ev own win rs n i o t last p0 p1 p2 p3 p4 e0 e1 e2 e3 e4
  | app p e => exact absurd hu (Nat.lt_irrefl _)
  | evi i p e =>
    obtain rfl | rfl | rfl | rfl | rfl : i = 0 ∨ i = 1 ∨ i = 2 ∨ i = 3 ∨ i = 4 := by
      have : i < 5 := hu
      omega
    · exact ep_5_evi0 ow ev own win rs n i o t last p0 p1 p2 p3 p4 e0 e1 e2 e3 e4 p e
    · exact ep_5_evi1 ow ev own win rs n i o t last p0 p1 p2 p3 p4 e0 e1 e2 e3 e4 p e
    · exact ep_5_evi2 ow ev own win rs n i o t last p0 p1 p2 p3 p4 e0 e1 e2 e3 e4 p e
    · exact ep_5_evi3 ow ev own win rs n i o t last p0 p1 p2 p3 p4 e0 e1 e2 e3 e4 p e
    · exact ep_5_evi4 ow ev own win rs n i o t last p0 p1 p2 p3 p4 e0 e1 e2 e3 e4 p e
end Go.Proofs.Ytgdalboilghciaa

set_option maxRecDepth 100000
set_option linter.unusedSimpArgs false
set_option linter.unusedVariables false
namespace Go.Proofs.Ytgdalboilghciaa
open Go.Rx
theorem tab5 {P : TabE → Prop} (h0 : P []) (h1 : ∀ a, P [a]) (h2 : ∀ a b, P [a, b]) (h3 : ∀ a b c, P [a, b, c]) (h4 : ∀ a b c d, P [a, b, c, d]) (h5 : ∀ a b c d e, P [a, b, c, d, e]) : ∀ es : TabE, es.length ≤ 5 → P es := by
  intro es h
  rcases es with _ | ⟨a, _ | ⟨b, _ | ⟨c, _ | ⟨d, _ | ⟨e, _ | ⟨f, l⟩⟩⟩⟩⟩⟩
  · exact h0
  · exact h1 a
  · exact h2 a b
  · exact h3 a b c
  · exact h4 a b c d
  · exact h5 a b c d e
  · simp at h
theorem ep_all (ow : Ck) (ev : Int) (own : Ck) (win : Int) (rs : List (List V)) (n : Nat) (i : Int) (o : Opp) (t last : Int) (es : TabE) (hn : es.length ≤ 5) : ∀ u : Up, u.okU es.length → EpFacts ow ev own win rs n i o t last es u := by
  revert es
  refine tab5 ?_ ?_ ?_ ?_ ?_ ?_
  · exact fun u hu => epn_0 ow ev own win rs n i o t last u hu
  · exact fun a u hu => epn_1 ow ev own win rs n i o t last a.1 a.2 u hu
  · exact fun a b u hu => epn_2 ow ev own win rs n i o t last a.1 b.1 a.2 b.2 u hu
  · exact fun a b c u hu => epn_3 ow ev own win rs n i o t last a.1 b.1 c.1 a.2 b.2 c.2 u hu
  · exact fun a b c d u hu => epn_4 ow ev own win rs n i o t last a.1 b.1 c.1 d.1 a.2 b.2 c.2 d.2 u hu
  · exact fun a b c d e u hu => epn_5 ow ev own win rs n i o t last a.1 b.1 c.1 d.1 e.1 a.2 b.2 c.2 d.2 e.2 u hu
/-- What a table's entries are: none was heard later. -/
def goodL (last : Int) (e : Ent) : Prop := e.t0 ≤ last ∧ 0 ≤ e.m ∧ e.m ≤ 2
def invE (last : Int) (es : TabE) : Prop := ∀ x ∈ es, goodL last x.2
theorem newE_goodL {last : Int} {s : Ste} {now : Int} : goodL (max last now) (newE s now) := ⟨by show now ≤ max last now; omega, by show (0 : Int) ≤ 1; decide, by show (1 : Int) ≤ 2; decide⟩
theorem heardE_goodL {last : Int} {s : Ste} {now : Int} {e : Ent} (he : goodL last e) : goodL (max last now) (heardE s now e) := by
  obtain ⟨_, h1, h2⟩ := he
  refine ⟨by show now ≤ max last now; omega, ?_, ?_⟩
  · show 0 ≤ min (IntKind.i64.wrap (e.m + 1)) 2
    rw [wrap64_id (by omega) (by omega)]
    omega
  · show min (IntKind.i64.wrap (e.m + 1)) 2 ≤ 2
    omega
theorem invE_mono {last now : Int} {es : TabE} (h : invE last es) : invE (max last now) es := fun x hx => by
  obtain ⟨h1, h2⟩ := h x hx
  exact ⟨by omega, h2⟩
theorem invE_up (srt : List Prt → List Prt) (own : Ck) (win : Int) (es : TabE) (o : Opp) (last : Int) (h : invE last es) : invE (max last o.now) ((doU srt own win es o).1.tab es) := by
  have h' := invE_mono (now := o.now) h
  unfold doU
  cases o.k == 0 with
  | true =>
    cases hb : badB own o.s o.now with
    | true => exact h'
    | false =>
      cases hf : findI o.s.snd es 0 with
      | some i =>
        dsimp only
        cases decide ((es.getD i default).2.t0 > o.now) with
        | true => exact h'
        | false =>
          obtain ⟨_, _, e, he⟩ := find_some hf
          have he : es[i]? = some (o.s.snd, e) := he
          have hge : goodL last (es.getD i default).2 := by
            rw [List.getD_eq_getElem?_getD, he]
            exact h _ (List.mem_of_getElem? he)
          intro x hx
          have hx : x ∈ es.set i ((es.getD i default).1, heardE o.s o.now (es.getD i default).2) := hx
          rcases List.mem_or_eq_of_mem_set hx with hx | rfl
          · exact h' x hx
          · exact heardE_goodL hge
      | none =>
        dsimp only
        cases Nat.ble 5 es.length with
        | false =>
          intro x hx
          have hx : x ∈ es ++ [(o.s.snd, newE o.s o.now)] := hx
          rcases List.mem_append.1 hx with hx | hx
          · exact h' x hx
          · rw [List.mem_singleton.1 hx]; exact newE_goodL
        | true =>
          cases ovB srt es win o.now with
          | false => exact h'
          | true =>
            cases findI (ovP srt es win o.now) es 0 with
            | none => exact h'
            | some i =>
              intro x hx
              have hx : x ∈ es.eraseIdx i ++ [(o.s.snd, newE o.s o.now)] := hx
              rcases List.mem_append.1 hx with hx | hx
              · exact h' x (List.mem_of_mem_eraseIdx hx)
              · rw [List.mem_singleton.1 hx]; exact newE_goodL
  | false =>
    cases o.k == 1 with
    | true =>
      cases findI o.s.snd es 0 with
      | none => exact h'
      | some i => exact fun x hx => h' x (List.mem_of_mem_eraseIdx hx)
    | false =>
      cases o.k == 2 with
      | true => exact fun x hx => by cases hx
      | false => exact h'
theorem wfE_ofL {last : Int} {es : TabE} (h : invE last es) : wfE es = true := by
  unfold wfE
  rw [List.all_eq_true]
  intro x hx
  obtain ⟨_, h1, h2⟩ := h x hx
  rw [decide_eq_true h1, decide_eq_true h2]
  rfl
theorem qC_mem {now win : Int} {x : Prt} : ∀ {es : TabE}, qC now win x es = true → ∃ e ∈ es, (cntE e.2 e.2.m.toNat now win == 2) = true
  | [], h => by cases h
  | e :: r, h => by
    rw [qC] at h
    split at h
    · exact ⟨e, List.mem_cons_self, h⟩
    · obtain ⟨y, hy, h2⟩ := qC_mem h
      exact ⟨y, List.mem_cons_of_mem _ hy, h2⟩
theorem cnt_no {e : Ent} {len : Nat} {now win : Int} (h : inW now win e.t0 = false) : (cntE e len now win == 2) = false := by
  unfold cntE
  split
  · rfl
  · rw [h]; rfl
  · rw [h]
    cases inW now win e.t1 <;> rfl
theorem quF_none {last ev : Int} {es : TabE} (h : invE last es) (h1 : 0 ≤ last) (h2 : last ≤ 1152921504606846976) (e1 : 1 ≤ ev) (e2 : ev ≤ 1099511627776) (l : List Prt) :
    quF (IntKind.i64.wrap (last + IntKind.i64.wrap (4 * ev))) (IntKind.i64.wrap (4 * ev)) es l = [] := by
  have w4 : IntKind.i64.wrap (4 * ev) = 4 * ev := wrap64_id (by omega) (by omega)
  have wl : IntKind.i64.wrap (last + 4 * ev) = last + 4 * ev := wrap64_id (by omega) (by omega)
  have wd : IntKind.i64.wrap (last + 4 * ev - 4 * ev) = last := by rw [wrap64_id (by omega) (by omega)]; omega
  rw [w4, wl]
  unfold quF
  rw [List.map_eq_nil_iff, List.filter_eq_nil_iff]
  intro x _ hq
  obtain ⟨e, he, hc⟩ := qC_mem hq
  have : inW (last + 4 * ev) (4 * ev) e.2.t0 = false := by
    unfold inW
    rw [wd, decide_eq_false (show ¬ e.2.t0 > last by have := (h e he).1; omega)]
    cases decide (e.2.t0 ≤ last + 4 * ev) <;> rfl
  rw [cnt_no this] at hc
  cases hc
/-- How the loop ends: early or not; the last time; the table. -/
def EndOK (ev : Int) (own : Ck) (win : Int) (rs : List (List V)) (n N : Nat) (last : Int) (k : Int) (es : TabE) (q : Bool × Int × TabE) : Prop :=
  RunT P 4 [0, 1, 2] 60 [2, 5, 7, 30, 31, 32] [4, 7] (loopAt Try.f6 0) N (epV last n k) (epB own ev own win rs es) (match q.1 with | true => .ret | false => .exit 0) (match q.1 with | true => [.tru, .int .i64 q.2.1] | false => [.any, .int .i64 q.2.1]) (epB own ev own win rs q.2.2) ∧
    q.2.2.length ≤ 5 ∧ invE q.2.1 q.2.2 ∧ 0 ≤ q.2.1 ∧ q.2.1 ≤ 1152921504606846976
theorem ep_run (ev : Int) (own : Ck) (win : Int) (l : List Opp) (hl : l.length ≤ 1000) : ∀ (d k : Nat) (es : TabE) (last : Int), k + d = l.length → es.length ≤ 5 → invE last es → 0 ≤ last → last ≤ 1152921504606846976 →
    ∃ q, EndOK ev own win (l.map Opp.vs) l.length (d + 1) last k es q := by
  have hG : ∀ (es : TabE) (o : Opp) (hn : es.length ≤ 5), GammaOK P (epG [.ptr 0 0 0 0, o.v] (tabB own win es) ((doU isoL own win es o).1.res es (doU isoL own win es o).2)) := fun es o hn =>
    .cons (al_ok (srt := isoL) fun _ => rfl) (.cons (or_ok (do_ok (srt := isoL) fun _ => rfl) (doU_ok (fun _ => rfl) own win es o hn)) (.nil P))
  have hrep : ∀ es : TabE, (epB own ev own win (l.map Opp.vs) es).length = es.length + 4 := fun es => by
    show (es.map _).length + 1 + 1 + 1 + 1 = _
    rw [List.length_map]
  intro d
  induction d with
  | zero =>
    intro k es last hk hn hI h0 h1
    obtain ⟨hu, _⟩ := doU_okU (srt := isoL) own win es ⟨5, 0, default⟩ hn
    have hx := (ep_all own ev own win (l.map Opp.vs) l.length k ⟨5, 0, default⟩ (doU isoL own win es ⟨5, 0, default⟩).2 last es hn _ hu).1
    unfold epX at hx
    rw [decide_eq_false (show ¬ ((k : Nat) : Int) < (l.length : Int) by omega)] at hx
    refine ⟨(false, last, es), ?_, hn, hI, h0, h1⟩
    rw [RunT]
    exact ⟨_, loopsOf [], epE last es.length, hG es ⟨5, 0, default⟩ hn, LoopsOK.nil (by kernel_rfl), hx, .inl ⟨by show Ex.exit 0 ≠ Ex.nrm; decide, rfl, rfl, rfl, by rw [hrep]; rfl, rfl⟩⟩
  | succ d ih =>
    intro k es last hk hn hI h0 h1
    have hkl : k < l.length := by omega
    obtain ⟨o, ho⟩ : ∃ o, l[k]? = some o := ⟨l[k], List.getElem?_eq_getElem hkl⟩
    obtain ⟨hu, hn'⟩ := doU_okU (srt := isoL) own win es o hn
    obtain ⟨f1, f2⟩ := ep_all own ev own win (l.map Opp.vs) l.length k o (doU isoL own win es o).2 last es hn _ hu
    obtain ⟨f2, f3, f4, f5, f6, f7⟩ := f2 o.now
    have hrow : rowO ((l.map Opp.vs).getD (0 + ((k : Nat) : Int).toNat) []) = o := by
      rw [Int.toNat_natCast, Nat.zero_add, List.getD_eq_getElem?_getD, List.getElem?_map, ho]
      exact rowO_vs o
    rw [hrow] at f1
    unfold epX at f1
    rw [decide_eq_true (show ((k : Nat) : Int) < (l.length : Int) by omega), decide_eq_true (show (0 : Int) ≤ ((k : Nat) : Int) by omega), eqAB_self,
      decide_eq_true (show 0 + ((k : Nat) : Int).toNat < (l.map Opp.vs).length by rw [Int.toNat_natCast, List.length_map]; omega)] at f1
    cases c1 : decide (o.now > 1152921504606846976) with
    | true =>
      rw [c1] at f1
      refine ⟨(true, last, es), ?_, hn, hI, h0, h1⟩
      rw [RunT]
      exact ⟨_, loopsOf [], epF last es.length, hG es o hn, LoopsOK.nil (by kernel_rfl), f1, .inl ⟨by show Ex.ret ≠ Ex.nrm; decide, rfl, rfl, rfl, by rw [hrep]; rfl, rfl⟩⟩
    | false =>
      rw [c1] at f1
      simp only [decide_eq_false_iff_not] at c1
      have wk : IntKind.i64.wrap (((k : Nat) : Int) + 1) = ((k + 1 : Nat) : Int) := by rw [wrap64_id (by omega) (by omega)]; omega
      rw [wk] at f3
      obtain ⟨q, hq1, hq2⟩ := ih (k + 1) _ (max last o.now) (by omega) hn' (invE_up isoL own win es o last hI) (by omega) (by omega)
      refine ⟨q, ?_, hq2⟩
      rw [RunT]
      refine ⟨_, loopsOf [], epL last o.now l.length k es (doU isoL own win es o).1, hG es o hn, LoopsOK.nil (by kernel_rfl), f1, .inr ⟨rfl, f2, f5, f7, f6, ?_⟩⟩
      rw [f3, f4]
      exact hq1
/-- Rows of calls. -/
noncomputable def okO (n : Nat) (rs : List (List V)) : Bool := @decide (∃ l : List Opp, rs = l.map Opp.vs ∧ l.length = n) (Classical.propDecidable _)
theorem okO_iff {n : Nat} {rs : List (List V)} : okO n rs = true ↔ ∃ l : List Opp, rs = l.map Opp.vs ∧ l.length = n := by
  unfold okO
  exact ⟨fun h => @of_decide_eq_true _ (Classical.propDecidable _) h, fun h => @decide_eq_true _ (Classical.propDecidable _) h⟩
theorem KVs_int {k : IntKind} {ks : List K} {r : List V} (h : KVs (.int k :: ks) r) : ∃ n r', r = .int k n :: r' ∧ KVs ks r' := by
  obtain ⟨x, xs, rfl, ⟨n, rfl, _⟩, h⟩ := h
  exact ⟨n, xs, rfl, h⟩
theorem row_opp {r : List V} (h : KVs opK r) : ∃ o : Opp, r = o.vs := by
  obtain ⟨n0, r0, e0, h⟩ := KVs_int h
  obtain ⟨n1, r1, e1, h⟩ := KVs_int h
  obtain ⟨n2, r2, e2, h⟩ := KVs_int h
  obtain ⟨n3, r3, e3, h⟩ := KVs_int h
  obtain ⟨n4, r4, e4, h⟩ := KVs_int h
  obtain ⟨n5, r5, e5, h⟩ := KVs_int h
  obtain ⟨n6, r6, e6, h⟩ := KVs_int h
  obtain ⟨n7, r7, e7, h⟩ := KVs_int h
  obtain ⟨n8, r8, e8, h⟩ := KVs_int h
  obtain ⟨n9, r9, e9, h⟩ := KVs_int h
  obtain ⟨n10, r10, e10, h⟩ := KVs_int h
  obtain ⟨n11, r11, e11, h⟩ := KVs_int h
  obtain ⟨n12, r12, e12, h⟩ := KVs_int h
  obtain ⟨n13, r13, e13, h⟩ := KVs_int h
  obtain ⟨n14, r14, e14, h⟩ := KVs_int h
  obtain ⟨n15, r15, e15, h⟩ := KVs_int h
  obtain ⟨n16, r16, e16, h⟩ := KVs_int h
  obtain ⟨n17, r17, e17, h⟩ := KVs_int h
  obtain ⟨n18, r18, e18, h⟩ := KVs_int h
  obtain ⟨n19, r19, e19, h⟩ := KVs_int h
  obtain ⟨n20, r20, e20, h⟩ := KVs_int h
  obtain ⟨n21, r21, e21, h⟩ := KVs_int h
  obtain ⟨n22, r22, e22, h⟩ := KVs_int h
  obtain ⟨n23, r23, e23, h⟩ := KVs_int h
  obtain ⟨n24, r24, e24, h⟩ := KVs_int h
  obtain ⟨n25, r25, e25, h⟩ := KVs_int h
  obtain ⟨n26, r26, e26, h⟩ := KVs_int h
  obtain ⟨n27, r27, e27, h⟩ := KVs_int h
  obtain ⟨n28, r28, e28, h⟩ := KVs_int h
  obtain ⟨n29, r29, e29, h⟩ := KVs_int h
  obtain ⟨n30, r30, e30, h⟩ := KVs_int h
  obtain ⟨n31, r31, e31, h⟩ := KVs_int h
  obtain ⟨n32, r32, e32, h⟩ := KVs_int h
  obtain ⟨n33, r33, e33, h⟩ := KVs_int h
  have h : r33 = [] := h
  rw [e0, e1, e2, e3, e4, e5, e6, e7, e8, e9, e10, e11, e12, e13, e14, e15, e16, e17, e18, e19, e20, e21, e22, e23, e24, e25, e26, e27, e28, e29, e30, e31, e32, e33, h]
  exact ⟨⟨n0, n1, ⟨n2, n3, ⟨n4, n5, n6⟩, ⟨n7, n8, n9, n10, n11, n12, n13, n14⟩, n15, ⟨⟨n16, n17, n18, n19, n20, n21, n22, n23⟩, n24⟩, ⟨⟨n25, n26, n27, n28, n29, n30, n31, n32⟩, n33⟩⟩⟩, rfl⟩
theorem rows_opp : ∀ {rs : List (List V)}, (∀ r ∈ rs, KVs opK r) → ∃ l : List Opp, rs = l.map Opp.vs ∧ l.length = rs.length
  | [], _ => ⟨[], rfl, rfl⟩
  | r :: rs, h => by
    obtain ⟨o, ho⟩ := row_opp (h r List.mem_cons_self)
    obtain ⟨l, h1, h2⟩ := rows_opp fun x hx => h x (List.mem_cons_of_mem _ hx)
    exact ⟨o :: l, by rw [List.map_cons, ← ho, ← h1], by rw [List.length_cons, List.length_cons, h2]⟩
/-- A table of at most five entries, taken apart. -/
def shT {α : Type} (f : TabE → Tree α) (es : TabE) : Tree α :=
  .ite (Nat.beq es.length 0) (f []) (.ite (Nat.beq es.length 1) (f [es.getD 0 default]) (.ite (Nat.beq es.length 2) (f [es.getD 0 default, es.getD 1 default]) (.ite (Nat.beq es.length 3) (f [es.getD 0 default, es.getD 1 default, es.getD 2 default])
    (.ite (Nat.beq es.length 4) (f [es.getD 0 default, es.getD 1 default, es.getD 2 default, es.getD 3 default]) (.ite (Nat.beq es.length 5) (f [es.getD 0 default, es.getD 1 default, es.getD 2 default, es.getD 3 default, es.getD 4 default]) .fail)))))
theorem shT_den {α : Type} (f : TabE → Tree α) : ∀ es : TabE, es.length ≤ 5 → (shT f es).den = (f es).den := by
  refine tab5 ?_ ?_ ?_ ?_ ?_ ?_ <;> intros <;> rfl
noncomputable def outE (ev : Int) (own : Ck) (win : Int) (n : Nat) (rs : List (List V)) : Bool × Int × TabE := Classical.epsilon fun q => EndOK ev own win rs n (n + 1) 0 0 [] q
def epR (e : Ex) (vs : List V) (es : TabE) : LRes := ⟨e, vs, [none, none, none, some (some (.kv (keysB es) (ptrsF 4 es.length)))], es.map fun x => Body.cells x.2.vs⟩
noncomputable def epLf (vals : List V) (bs : List Blk) : Tree LRes := match vals, bs with
  | [.ptr 0 0 0 0, .ptr 1 0 0 0, .int .i64 0, .sl 2 0 0 34 n none, .int .i64 n', .int .i64 0], [Body.cells xc, tc, Body.rows sch rs, kb] => match Ck.p xc, tabPk 2 [tc, kb] with
    | some (own', [.int .i64 ev]), some (own, win, []) => .lit (decide (sch = opK)) (.need (own'.eqB own && (okO n rs && (decide (n ≤ 1000) && decide (n' = (n : Int)))))
        (.ite (outE ev own win n rs).1 (shT (fun es => .leaf (epR .ret [.tru, .int .i64 (outE ev own win n rs).2.1] es)) (outE ev own win n rs).2.2) (shT (fun es => .leaf (epR (.exit 0) [.any, .int .i64 (outE ev own win n rs).2.1] es)) (outE ev own win n rs).2.2)))
    | _, _ => .fail
  | _, _ => .fail
noncomputable abbrev epLs : LSpec := ⟨60, [2, 5, 7, 30, 31, 32], [4, 7], epLf⟩
theorem out_ok {ev : Int} {own : Ck} {win : Int} {n : Nat} {rs : List (List V)} (h : okO n rs = true) (hn : n ≤ 1000) : EndOK ev own win rs n (n + 1) 0 0 [] (outE ev own win n rs) := by
  obtain ⟨l, rfl, rfl⟩ := okO_iff.1 h
  unfold outE
  exact Classical.epsilon_spec (ep_run ev own win l hn l.length 0 [] 0 (by omega) (by decide) (fun x hx => by cases hx) (by decide) (by decide))
theorem ep_loop : LoopOK P (loopAt Try.f6 0) epLs := by
  refine loop_okT [0, 1, 2] hm epLs ?_
  intro vals bs r h
  change (epLf vals bs).den = some r at h
  unfold epLf at h
  split at h
  · rename_i n n' xc tc sch rs kb
    split at h
    · rename_i own' ev own win hs hb
      have hb := tabPk_eq hb
      have hs := Ck.p_eq hs
      rw [den_lit, den_need] at h
      obtain ⟨h1, h2, h⟩ := h
      simp only [decide_eq_true_eq] at h1
      simp only [Bool.and_eq_true, decide_eq_true_eq, Ck.eqB_iff] at h2
      obtain ⟨rfl, h2, h3, rfl⟩ := h2
      subst h1 hs
      have hb : tc :: [kb] = Body.cells (own'.vs ++ [.int .i64 win, .mapr 3]) :: [Body.kv [] []] := hb
      have e1 := (List.cons.inj hb).1
      have e2 := (List.cons.inj (List.cons.inj hb).2).1
      obtain ⟨hr, h4, _⟩ := out_ok (ev := ev) (own := own') (win := win) h2 h3
      rw [e1, e2]
      have fin : ∀ (e : Ex) (vs : List V), RunT P 4 [0, 1, 2] 60 [2, 5, 7, 30, 31, 32] [4, 7] (loopAt Try.f6 0) (n + 1) (epV 0 n 0) (epB own' ev own' win rs []) e vs (epB own' ev own' win rs (outE ev own' win n rs).2.2) → some (epR e vs (outE ev own' win n rs).2.2) = some r →
          ∃ bF m, r.upd = toldU [0, 1, 2] bF 4 ∧ r.new = bF.drop 4 ∧ 4 ≤ bF.length ∧ (bF.drop 4).all (fun bl => !isLook bl) = true ∧ RunT P 4 [0, 1, 2] 60 [2, 5, 7, 30, 31, 32] [4, 7] (loopAt Try.f6 0) m [.ptr 0 0 0 0, .ptr 1 0 0 0, .int .i64 0, .sl 2 0 0 34 n none, .int .i64 (n : Int), .int .i64 0]
            [Body.cells (own'.vs ++ [.int .i64 ev]), Body.cells (own'.vs ++ [.int .i64 win, .mapr 3]), Body.rows opK rs, Body.kv [] []] r.e r.vs bF := by
        intro e vs hx hy
        cases hy
        refine ⟨epB own' ev own' win rs (outE ev own' win n rs).2.2, n + 1, rfl, rfl, ?_, ?_, hx⟩
        · show 4 ≤ _ + 1 + 1 + 1 + 1
          omega
        · show ((outE ev own' win n rs).2.2.map fun x => Body.cells x.2.vs).all (fun bl => !isLook bl) = true
          rw [List.all_eq_true]
          intro x hx
          obtain ⟨y, _, rfl⟩ := List.mem_map.1 hx
          rfl
      cases hq : (outE ev own' win n rs).1 with
      | true =>
        rw [hq] at h hr
        have h : (shT (fun es => .leaf (epR .ret [.tru, .int .i64 (outE ev own' win n rs).2.1] es)) (outE ev own' win n rs).2.2).den = some r := h
        rw [shT_den _ _ h4, denLf] at h
        exact fin _ _ hr h
      | false =>
        rw [hq] at h hr
        have h : (shT (fun es => .leaf (epR (.exit 0) [.any, .int .i64 (outE ev own' win n rs).2.1] es)) (outE ev own' win n rs).2.2).den = some r := h
        rw [shT_den _ _ h4, denLf] at h
        exact fin _ _ hr h
    · simp [den_fail] at h
  · simp [den_fail] at h
abbrev ewG (srt : List Prt → List Prt) : List (Nat × Rx.Spec) := [(9, neS), (10, alS), (12, quS srt)]
noncomputable def ewT (srt : List Prt → List Prt) (own : Ck) (ev : Int) (n : Nat) (rs : List (List V)) (q : Bool × Int × TabE) : Tree Res :=
  .ite (decide (ev < 1)) (.leaf ⟨.tru, [none], []⟩) (.ite (decide (ev > 1099511627776)) (.leaf ⟨.tru, [none], []⟩) (.ite (decide ((n : Int) > 400)) (.leaf ⟨.tru, [none], []⟩)
    (.ite (own.eqB own && (okO n rs && (decide (n ≤ 1000) && decide ((n : Int) = (n : Int))))) (.ite q.1 (shT (fun _ => .leaf ⟨.tru, [none], []⟩) q.2.2)
      (shT (fun es => .ite (wfE es) (.leaf ⟨.bool (((quF (IntKind.i64.wrap (q.2.1 + IntKind.i64.wrap (4 * ev))) (IntKind.i64.wrap (4 * ev)) es (srt (es.map (·.1)))).length : Int) == 0), [none], []⟩) .fail) q.2.2)) .fail)))
theorem ew_nf (srt : List Prt → List Prt) (own : Ck) (ev : Int) (n : Nat) (rs : List (List V)) : Tree.denN (fFn P (specsOf (ewG srt)) (loopsOf [(6, epLs)]) Try.f6 [.agg (own.vs ++ [.int .i64 ev]), .sl 0 0 0 34 n none] [.rows opK rs]) = Tree.denN (ewT srt own ev n rs (outE ev own (IntKind.i64.wrap (4 * ev)) n rs)) := by
  kernel_rfl
noncomputable def ewS : Rx.Spec := fun a b => match a, b with
  | [q, .sl 0 0 0 34 n none], [.rows sch rs] => match Sea.of q with
    | some x => .lit (decide (sch = opK)) (.need (okO n rs) (.leaf ⟨.bool true, [none], []⟩))
    | _ => .fail
  | _, _ => .fail
theorem denN_sh (f : TabE → Tree Res) (es : TabE) (h : es.length ≤ 5) : (shT f es).denN = (f es).denN := by
  unfold Tree.denN
  rw [shT_den f es h]
theorem ew_true (own : Ck) (ev : Int) (n : Nat) (rs : List (List V)) (h : okO n rs = true) : (ewT isoL own ev n rs (outE ev own (IntKind.i64.wrap (4 * ev)) n rs)).denN = some (Res.nrm ⟨.bool true, [none], []⟩) := by
  unfold ewT
  simp only [denN_ite, denN_leaf]
  split
  · rfl
  rename_i c1
  split
  · rfl
  rename_i c2
  split
  · rfl
  rename_i c3
  simp only [decide_eq_true_eq] at c1 c2 c3
  have hn : n ≤ 1000 := by omega
  obtain ⟨_, h4, h5, h6, h7⟩ := out_ok (ev := ev) (own := own) (win := IntKind.i64.wrap (4 * ev)) h hn
  rw [h, decide_eq_true hn, Ck.eqB_self, denN_sh _ _ h4, denN_sh _ _ h4, denN_leaf, denN_ite, denN_leaf, wfE_ofL h5, quF_none h5 h6 h7 (by omega) (by omega)]
  cases (outE ev own (IntKind.i64.wrap (4 * ev)) n rs).1 <;> rfl
theorem ew_ok : SpecOK P 6 ewS := by
  refine specOK_fast (.cons ne_ok (.cons (al_ok (srt := isoL) fun _ => rfl) (.cons (qu_ok (srt := isoL) fun _ => rfl) (.nil P))) : GammaOK P (ewG isoL)) hm (Λ := loopsOf [(6, epLs)]) Try.func6 (by kernel_rfl) (LoopsOK.one (by kernel_rfl) ep_loop) ?_
  intro args bs r h
  unfold ewS at h
  split at h
  · rename_i q n sch rs
    split at h
    · rename_i x h1
      have h1 := Sea.of_eq h1
      subst h1
      rw [den_lit, den_need, denLf] at h
      obtain ⟨h3, h4, h⟩ := h
      simp only [decide_eq_true_eq] at h3
      subst h3
      cases h
      exact (ew_nf isoL x.own x.ev n rs).trans (ew_true x.own x.ev n rs h4)
    · simp [den_fail] at h
  · simp [den_fail] at h
end Go.Proofs.Ytgdalboilghciaa
