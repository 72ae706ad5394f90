/- Layer 8: what a call on a table does, told as one of seven. The conditions stand in the specifications. -/
import Derived.Test.YtgdalboilghciaaFoE
import Derived.Test.YtgdalboilghciaaRxD
set_option linter.unusedSimpArgs false
set_option linter.unusedVariables false
set_option linter.unnecessarySimpa false
set_option linter.unusedSectionVars false
set_option maxRecDepth 100000
set_option linter.unusedSimpArgs false
set_option linter.unusedVariables false
namespace Go.Proofs.Ytgdalboilghciaa
open Go.Rx
inductive Up where
  | keep
  | same
  | set (i : Nat) (e : Ent)
  | app (p : Prt) (e : Ent)
  | evi (i : Nat) (p : Prt) (e : Ent)
  | drop (i : Nat)
  | clear
def Up.res (es : TabE) (t : Int) : Up → Res
  | .keep => ⟨.int .i64 t, noneU es.length, []⟩
  | .same => ⟨.int .i64 t, kvU es.length (keysB es) (ptrsF 2 es.length), []⟩
  | .set i e => ⟨.int .i64 t, entU es.length i e, []⟩
  | .app p e => ⟨.int .i64 t, kvU es.length (keysB es ++ [p.v]) (ptrsF 2 es.length ++ [.ptr (es.length + 2) 0 0 0]), [.cells e.vs]⟩
  | .evi i p e => ⟨.int .i64 t, kvU es.length ((keysB es).eraseIdx i ++ [p.v]) ((ptrsF 2 es.length).eraseIdx i ++ [.ptr (es.length + 2) 0 0 0]), [.cells e.vs]⟩
  | .drop i => ⟨.int .i64 t, kvU es.length ((keysB es).eraseIdx i) ((ptrsF 2 es.length).eraseIdx i), []⟩
  | .clear => ⟨.int .i64 t, kvU es.length [] [], []⟩
def Up.tab (es : TabE) : Up → TabE
  | .keep => es
  | .same => es
  | .set i e => es.set i ((es.getD i default).1, e)
  | .app p e => es ++ [(p, e)]
  | .evi i p e => es.eraseIdx i ++ [(p, e)]
  | .drop i => es.eraseIdx i
  | .clear => []
/-- What is written of the blocks from the map on (block k): the map, the entries; what is new. -/
def Up.upd (k : Nat) (es : TabE) : Up → List (Option (Option Blk))
  | .keep => List.replicate (es.length + 1) none
  | .same => some (some (.kv (keysB es) (ptrsF (k + 1) es.length))) :: List.replicate es.length none
  | .set i e => none :: (List.replicate es.length none).set i (some (some (.cells e.vs)))
  | .app p e => some (some (.kv (keysB es ++ [p.v]) (ptrsF (k + 1) es.length ++ [.ptr (es.length + k + 1) 0 0 0]))) :: List.replicate es.length none
  | .evi i p e => some (some (.kv ((keysB es).eraseIdx i ++ [p.v]) ((ptrsF (k + 1) es.length).eraseIdx i ++ [.ptr (es.length + k + 1) 0 0 0]))) :: List.replicate es.length none
  | .drop i => some (some (.kv ((keysB es).eraseIdx i) ((ptrsF (k + 1) es.length).eraseIdx i))) :: List.replicate es.length none
  | .clear => some (some (.kv [] [])) :: List.replicate es.length none
def Up.news : Up → List Blk
  | .app _ e => [.cells e.vs]
  | .evi _ _ e => [.cells e.vs]
  | _ => []
def Up.okU (n : Nat) : Up → Prop
  | .set i _ => i < n
  | .app _ _ => n < 5
  | .evi i _ _ => i < n
  | .drop i => i < n
  | _ => True
def findI (p : Prt) : TabE → Nat → Option Nat
  | [], _ => none
  | e :: r, k => match p.eqB e.1 with
    | true => some k
    | false => findI p r (k + 1)
theorem chain_den (p : Prt) (f : Nat → Tree Res) (z : Tree Res) : ∀ (es : TabE) (k : Nat), (chainE p es k f z).denN = match findI p es k with | some i => (f i).denN | none => z.denN
  | [], k => rfl
  | e :: r, k => by
    rw [chainE, denN_ite, findI]
    cases p.eqB e.1 with
    | true => rfl
    | false => exact chain_den p f z r (k + 1)
theorem find_some {p : Prt} : ∀ {es : TabE} {k i : Nat}, findI p es k = some i → k ≤ i ∧ i < k + es.length ∧ ∃ e, es[i - k]? = some (p, e)
  | [], k, i, h => by cases h
  | e :: r, k, i, h => by
    rw [findI] at h
    split at h
    · rename_i he
      cases h
      refine ⟨Nat.le_refl _, by simp, e.2, ?_⟩
      rw [Nat.sub_self]
      have := Prt.eqB_iff.1 he
      rw [this]
      rfl
    · obtain ⟨h1, h2, y, h3⟩ := find_some h
      refine ⟨by omega, by simp; omega, y, ?_⟩
      rw [show i - k = (i - (k + 1)) + 1 by omega]
      simpa using h3
theorem find_none {p : Prt} : ∀ {es : TabE} {k : Nat}, findI p es k = none → ∀ x ∈ es, x.1 ≠ p
  | [], k, h, x, hx => by simp at hx
  | e :: r, k, h, x, hx => by
    rw [findI] at h
    split at h
    · cases h
    · rename_i he
      rcases List.mem_cons.1 hx with rfl | hx
      · intro e2
        rw [← e2, Prt.eqB_self] at he
        cases he
      · exact find_none h x hx
def doU (srt : List Prt → List Prt) (own : Ck) (win : Int) (es : TabE) (o : Opp) : Up × Int :=
  match o.k == 0 with
  | true => match badB own o.s o.now with
    | true => (.keep, 0)
    | false => match findI o.s.snd es 0 with
      | some i => match decide ((es.getD i default).2.t0 > o.now) with
        | true => (.keep, 0)
        | false => (.set i (heardE o.s o.now (es.getD i default).2), 1)
      | none => match Nat.ble 5 es.length with
        | false => (.app o.s.snd (newE o.s o.now), 2)
        | true => match ovB srt es win o.now with
          | true => match findI (ovP srt es win o.now) es 0 with
            | some i => (.evi i o.s.snd (newE o.s o.now), 3)
            | none => (.keep, 5)
          | false => (.keep, 4)
  | false => match o.k == 1 with
    | true => match findI o.s.snd es 0 with
      | some i => (.drop i, 1)
      | none => (.same, 0)
    | false => match o.k == 2 with
      | true => (.clear, 0)
      | false => (.keep, 0)
theorem isPtrs_F : ∀ (n k : Nat), isPtrs k (ptrsF k n) = true
  | 0, k => rfl
  | n + 1, k => by
    show (Nat.beq k k && Nat.beq 0 0 && Nat.beq 0 0 && Nat.beq 0 0 && isPtrs (k + 1) (ptrsF (k + 1) n)) = true
    rw [isPtrs_F n (k + 1), Nat.beq_refl]
    rfl
theorem ptrsF_len : ∀ (n k : Nat), (ptrsF k n).length = n
  | 0, k => rfl
  | n + 1, k => by
    show (ptrsF (k + 1) n).length + 1 = _
    rw [ptrsF_len n (k + 1)]
theorem entsP_map : ∀ es : TabE, entsP (es.map fun x => x.1.v) (es.map fun x => Body.cells x.2.vs) = some es
  | [] => rfl
  | e :: r => by
    show (match Prt.of e.1.v, Ent.of e.2.vs, entsP (r.map fun x => x.1.v) (r.map fun x => Body.cells x.2.vs) with
      | some p, some e, some r => some ((p, e) :: r)
      | _, _, _ => none) = _
    rw [entsP_map r]
    rfl
theorem tabP_tabB (own : Ck) (win : Int) (es : TabE) : tabP (tabB own win es) = some (own, win, es) := by
  show (match isPtrs 2 (ptrsF 2 es.length) && Nat.beq (ptrsF 2 es.length).length (es.map fun x => x.1.v).length, entsP (es.map fun x => x.1.v) (es.map fun x => Body.cells x.2.vs) with
      | true, some es => some (own, win, es)
      | _, _ => none) = _
  rw [isPtrs_F, ptrsF_len, List.length_map, Nat.beq_refl, entsP_map]
  rfl
theorem minE_mem (es : TabE) : ∀ (l : List Prt) (m : Prt), minE es m l ∈ m :: l
  | [], m => by simp [minE]
  | x :: r, m => by
    rw [minE]
    split
    · have := minE_mem es r x
      simp only [List.mem_cons] at this ⊢
      exact .inr this
    · have := minE_mem es r m
      simp only [List.mem_cons] at this ⊢
      rcases this with h | h
      · exact .inl h
      · exact .inr (.inr h)
theorem ovP_mem {srt : List Prt → List Prt} (hsrt : ∀ l, srt l = isoL l) {es : TabE} {win now : Int} (h : ovB srt es win now = true) : ovP srt es win now ∈ es.map (·.1) := by
  have hp : (srt (es.map (·.1))).Perm (es.map (·.1)) := by rw [hsrt]; exact isoL_perm _
  unfold ovP
  unfold ovB at h
  cases hF : overL srt es win now with
  | nil => rw [hF] at h; cases h
  | cons y l =>
    have hy : minE es y l ∈ overL srt es win now := by rw [hF]; exact minE_mem es l y
    exact hp.mem_iff.1 (List.mem_filter.1 hy).1
theorem doU_ok {srt : List Prt → List Prt} (hsrt : ∀ l, srt l = isoL l) (own : Ck) (win : Int) (es : TabE) (o : Opp) (hn : es.length ≤ 5) :
    ((doS srt) [.ptr 0 0 0 0, o.v] (tabB own win es)).denN = some (Res.nrm ((doU srt own win es o).1.res es (doU srt own win es o).2)) := by
  have e0 : (doS srt) [.ptr 0 0 0 0, o.v] (tabB own win es) = Tree.lit (Nat.ble es.length 5) (doR srt own win es o) := by
    unfold doS
    simp only [tabP_tabB]
    rfl
  rw [e0, Nat.ble_eq.mpr hn]
  show (doR srt own win es o).denN = _
  unfold doR doU heR
  simp only [denN_ite, chain_den, denN_leaf]
  cases o.k == 0 with
  | true =>
    cases badB own o.s o.now with
    | true => rfl
    | false =>
      dsimp only
      cases findI o.s.snd es 0 with
      | some i =>
        dsimp only
        cases decide ((es.getD i default).2.t0 > o.now) <;> rfl
      | none =>
        dsimp only
        cases Nat.ble 5 es.length with
        | false => rfl
        | true =>
          dsimp only
          rw [denN_ite, chain_den]
          cases hov : ovB srt es win o.now with
          | false => rfl
          | true =>
            cases hf : findI (ovP srt es win o.now) es 0 with
            | some i => rfl
            | none =>
              have := ovP_mem hsrt hov
              rw [List.mem_map] at this
              obtain ⟨x, hx, he⟩ := this
              exact absurd he (find_none hf x hx)
  | false =>
    cases o.k == 1 with
    | true =>
      show (match findI o.s.snd es 0 with | some i => _ | none => _) = _
      cases findI o.s.snd es 0 <;> rfl
    | false =>
      cases o.k == 2 <;> rfl
theorem doU_okU {srt : List Prt → List Prt} (own : Ck) (win : Int) (es : TabE) (o : Opp) (hn : es.length ≤ 5) : (doU srt own win es o).1.okU es.length ∧ ((doU srt own win es o).1.tab es).length ≤ 5 := by
  unfold doU
  cases o.k == 0 with
  | true =>
    cases badB own o.s o.now with
    | true => exact ⟨trivial, hn⟩
    | false =>
      cases hf : findI o.s.snd es 0 with
      | some i =>
        obtain ⟨_, h2, _⟩ := find_some hf
        dsimp only
        cases decide ((es.getD i default).2.t0 > o.now) with
        | true => exact ⟨trivial, hn⟩
        | false => exact ⟨by show i < es.length; omega, by show (es.set i _).length ≤ 5; rw [List.length_set]; exact hn⟩
      | none =>
        dsimp only
        cases hb : Nat.ble 5 es.length with
        | false =>
          have : es.length < 5 := by
            rcases Nat.lt_or_ge es.length 5 with h | h
            · exact h
            · rw [Nat.ble_eq.mpr h] at hb; cases hb
          exact ⟨this, by show (es ++ [_]).length ≤ 5; rw [List.length_append, List.length_singleton]; omega⟩
        | true =>
          cases ovB srt es win o.now with
          | false => exact ⟨trivial, hn⟩
          | true =>
            cases hg : findI (ovP srt es win o.now) es 0 with
            | none => exact ⟨trivial, hn⟩
            | some i =>
              obtain ⟨_, h2, _⟩ := find_some hg
              refine ⟨by show i < es.length; omega, ?_⟩
              show (es.eraseIdx i ++ [_]).length ≤ 5
              rw [List.length_append, List.length_singleton, List.length_eraseIdx_of_lt (by omega)]
              omega
  | false =>
    cases o.k == 1 with
    | true =>
      cases hf : findI o.s.snd es 0 with
      | none => exact ⟨trivial, hn⟩
      | some i =>
        obtain ⟨_, h2, _⟩ := find_some hf
        refine ⟨by show i < es.length; omega, ?_⟩
        show (es.eraseIdx i).length ≤ 5
        rw [List.length_eraseIdx_of_lt (by omega)]
        omega
    | false =>
      cases o.k == 2 with
      | true => exact ⟨trivial, Nat.zero_le _⟩
      | false => exact ⟨trivial, hn⟩
end Go.Proofs.Ytgdalboilghciaa
