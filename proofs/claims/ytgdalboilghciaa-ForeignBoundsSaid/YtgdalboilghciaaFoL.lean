/- Layer 8: a call on a table, told as one of seven; rounds of ForeignBounds. The conditions stand in the specifications. -/
import Derived.Test.YtgdalboilghciaaFoE
import Derived.Test.YtgdalboilghciaaRxD
import Derived.Test.YtgdalboilghciaaFoF
set_option linter.unusedSimpArgs false
set_option linter.unusedVariables false
set_option linter.unnecessarySimpa false
set_option linter.unusedSectionVars false
set_option maxRecDepth 100000
set_option linter.unusedSimpArgs false
set_option linter.unusedVariables false
namespace Go.Proofs.Ytgdalboilghciaa
open Go.Rx
inductive Up where
  | keep
  | same
  | set (i : Nat) (e : Ent)
  | app (p : Prt) (e : Ent)
  | evi (i : Nat) (p : Prt) (e : Ent)
  | drop (i : Nat)
  | clear
def Up.res (es : TabE) (t : Int) : Up → Res
  | .keep => ⟨.int .i64 t, noneU es.length, []⟩
  | .same => ⟨.int .i64 t, kvU es.length (keysB es) (ptrsF 2 es.length), []⟩
  | .set i e => ⟨.int .i64 t, entU es.length i e, []⟩
  | .app p e => ⟨.int .i64 t, kvU es.length (keysB es ++ [p.v]) (ptrsF 2 es.length ++ [.ptr (es.length + 2) 0 0 0]), [.cells e.vs]⟩
  | .evi i p e => ⟨.int .i64 t, kvU es.length ((keysB es).eraseIdx i ++ [p.v]) ((ptrsF 2 es.length).eraseIdx i ++ [.ptr (es.length + 2) 0 0 0]), [.cells e.vs]⟩
  | .drop i => ⟨.int .i64 t, kvU es.length ((keysB es).eraseIdx i) ((ptrsF 2 es.length).eraseIdx i), []⟩
  | .clear => ⟨.int .i64 t, kvU es.length [] [], []⟩
def Up.tab (es : TabE) : Up → TabE
  | .keep => es
  | .same => es
  | .set i e => es.set i ((es.getD i default).1, e)
  | .app p e => es ++ [(p, e)]
  | .evi i p e => es.eraseIdx i ++ [(p, e)]
  | .drop i => es.eraseIdx i
  | .clear => []
/-- What is written of the blocks from the map on (block k): the map, the entries; what is new. -/
def Up.upd (k : Nat) (es : TabE) : Up → List (Option (Option Blk))
  | .keep => List.replicate (es.length + 1) none
  | .same => some (some (.kv (keysB es) (ptrsF (k + 1) es.length))) :: List.replicate es.length none
  | .set i e => none :: (List.replicate es.length none).set i (some (some (.cells e.vs)))
  | .app p e => some (some (.kv (keysB es ++ [p.v]) (ptrsF (k + 1) es.length ++ [.ptr (es.length + k + 1) 0 0 0]))) :: List.replicate es.length none
  | .evi i p e => some (some (.kv ((keysB es).eraseIdx i ++ [p.v]) ((ptrsF (k + 1) es.length).eraseIdx i ++ [.ptr (es.length + k + 1) 0 0 0]))) :: List.replicate es.length none
  | .drop i => some (some (.kv ((keysB es).eraseIdx i) ((ptrsF (k + 1) es.length).eraseIdx i))) :: List.replicate es.length none
  | .clear => some (some (.kv [] [])) :: List.replicate es.length none
def Up.news : Up → List Blk
  | .app _ e => [.cells e.vs]
  | .evi _ _ e => [.cells e.vs]
  | _ => []
def Up.okU (n : Nat) : Up → Prop
  | .set i _ => i < n
  | .app _ _ => n < 5
  | .evi i _ _ => i < n
  | .drop i => i < n
  | _ => True
def findI (p : Prt) : TabE → Nat → Option Nat
  | [], _ => none
  | e :: r, k => match p.eqB e.1 with
    | true => some k
    | false => findI p r (k + 1)
theorem chain_den (p : Prt) (f : Nat → Tree Res) (z : Tree Res) : ∀ (es : TabE) (k : Nat), (chainE p es k f z).denN = match findI p es k with | some i => (f i).denN | none => z.denN
  | [], k => rfl
  | e :: r, k => by
    rw [chainE, denN_ite, findI]
    cases p.eqB e.1 with
    | true => rfl
    | false => exact chain_den p f z r (k + 1)
theorem find_some {p : Prt} : ∀ {es : TabE} {k i : Nat}, findI p es k = some i → k ≤ i ∧ i < k + es.length ∧ ∃ e, es[i - k]? = some (p, e)
  | [], k, i, h => by cases h
  | e :: r, k, i, h => by
    rw [findI] at h
    split at h
    · rename_i he
      cases h
      refine ⟨Nat.le_refl _, by simp, e.2, ?_⟩
      rw [Nat.sub_self]
      have := Prt.eqB_iff.1 he
      rw [this]
      rfl
    · obtain ⟨h1, h2, y, h3⟩ := find_some h
      refine ⟨by omega, by simp; omega, y, ?_⟩
      rw [show i - k = (i - (k + 1)) + 1 by omega]
      simpa using h3
theorem find_none {p : Prt} : ∀ {es : TabE} {k : Nat}, findI p es k = none → ∀ x ∈ es, x.1 ≠ p
  | [], k, h, x, hx => by simp at hx
  | e :: r, k, h, x, hx => by
    rw [findI] at h
    split at h
    · cases h
    · rename_i he
      rcases List.mem_cons.1 hx with rfl | hx
      · intro e2
        rw [← e2, Prt.eqB_self] at he
        cases he
      · exact find_none h x hx
def doU (srt : List Prt → List Prt) (own : Ck) (win : Int) (es : TabE) (o : Opp) : Up × Int :=
  match o.k == 0 with
  | true => match badB own o.s o.now with
    | true => (.keep, 0)
    | false => match findI o.s.snd es 0 with
      | some i => match decide ((es.getD i default).2.t0 > o.now) with
        | true => (.keep, 0)
        | false => (.set i (heardE o.s o.now (es.getD i default).2), 1)
      | none => match Nat.ble 5 es.length with
        | false => (.app o.s.snd (newE o.s o.now), 2)
        | true => match ovB srt es win o.now with
          | true => match findI (ovP srt es win o.now) es 0 with
            | some i => (.evi i o.s.snd (newE o.s o.now), 3)
            | none => (.keep, 5)
          | false => (.keep, 4)
  | false => match o.k == 1 with
    | true => match findI o.s.snd es 0 with
      | some i => (.drop i, 1)
      | none => (.same, 0)
    | false => match o.k == 2 with
      | true => (.clear, 0)
      | false => (.keep, 0)
theorem isPtrs_F : ∀ (n k : Nat), isPtrs k (ptrsF k n) = true
  | 0, k => rfl
  | n + 1, k => by
    show (Nat.beq k k && Nat.beq 0 0 && Nat.beq 0 0 && Nat.beq 0 0 && isPtrs (k + 1) (ptrsF (k + 1) n)) = true
    rw [isPtrs_F n (k + 1), Nat.beq_refl]
    rfl
theorem ptrsF_len : ∀ (n k : Nat), (ptrsF k n).length = n
  | 0, k => rfl
  | n + 1, k => by
    show (ptrsF (k + 1) n).length + 1 = _
    rw [ptrsF_len n (k + 1)]
theorem entsP_map : ∀ es : TabE, entsP (es.map fun x => x.1.v) (es.map fun x => Body.cells x.2.vs) = some es
  | [] => rfl
  | e :: r => by
    show (match Prt.of e.1.v, Ent.of e.2.vs, entsP (r.map fun x => x.1.v) (r.map fun x => Body.cells x.2.vs) with
      | some p, some e, some r => some ((p, e) :: r)
      | _, _, _ => none) = _
    rw [entsP_map r]
    rfl
theorem tabP_tabB (own : Ck) (win : Int) (es : TabE) : tabP (tabB own win es) = some (own, win, es) := by
  show (match isPtrs 2 (ptrsF 2 es.length) && Nat.beq (ptrsF 2 es.length).length (es.map fun x => x.1.v).length, entsP (es.map fun x => x.1.v) (es.map fun x => Body.cells x.2.vs) with
      | true, some es => some (own, win, es)
      | _, _ => none) = _
  rw [isPtrs_F, ptrsF_len, List.length_map, Nat.beq_refl, entsP_map]
  rfl
theorem minE_mem (es : TabE) : ∀ (l : List Prt) (m : Prt), minE es m l ∈ m :: l
  | [], m => by simp [minE]
  | x :: r, m => by
    rw [minE]
    split
    · have := minE_mem es r x
      simp only [List.mem_cons] at this ⊢
      exact .inr this
    · have := minE_mem es r m
      simp only [List.mem_cons] at this ⊢
      rcases this with h | h
      · exact .inl h
      · exact .inr (.inr h)
theorem ovP_mem {srt : List Prt → List Prt} (hsrt : ∀ l, srt l = isoL l) {es : TabE} {win now : Int} (h : ovB srt es win now = true) : ovP srt es win now ∈ es.map (·.1) := by
  have hp : (srt (es.map (·.1))).Perm (es.map (·.1)) := by rw [hsrt]; exact isoL_perm _
  unfold ovP
  unfold ovB at h
  cases hF : overL srt es win now with
  | nil => rw [hF] at h; cases h
  | cons y l =>
    have hy : minE es y l ∈ overL srt es win now := by rw [hF]; exact minE_mem es l y
    exact hp.mem_iff.1 (List.mem_filter.1 hy).1
theorem doU_ok {srt : List Prt → List Prt} (hsrt : ∀ l, srt l = isoL l) (own : Ck) (win : Int) (es : TabE) (o : Opp) (hn : es.length ≤ 5) :
    ((doS srt) [.ptr 0 0 0 0, o.v] (tabB own win es)).denN = some (Res.nrm ((doU srt own win es o).1.res es (doU srt own win es o).2)) := by
  have e0 : (doS srt) [.ptr 0 0 0 0, o.v] (tabB own win es) = Tree.lit (Nat.ble es.length 5) (doR srt own win es o) := by
    unfold doS
    simp only [tabP_tabB]
    rfl
  rw [e0, Nat.ble_eq.mpr hn]
  show (doR srt own win es o).denN = _
  unfold doR doU heR
  simp only [denN_ite, chain_den, denN_leaf]
  cases o.k == 0 with
  | true =>
    cases badB own o.s o.now with
    | true => rfl
    | false =>
      dsimp only
      cases findI o.s.snd es 0 with
      | some i =>
        dsimp only
        cases decide ((es.getD i default).2.t0 > o.now) <;> rfl
      | none =>
        dsimp only
        cases Nat.ble 5 es.length with
        | false => rfl
        | true =>
          dsimp only
          rw [denN_ite, chain_den]
          cases hov : ovB srt es win o.now with
          | false => rfl
          | true =>
            cases hf : findI (ovP srt es win o.now) es 0 with
            | some i => rfl
            | none =>
              have := ovP_mem hsrt hov
              rw [List.mem_map] at this
              obtain ⟨x, hx, he⟩ := this
              exact absurd he (find_none hf x hx)
  | false =>
    cases o.k == 1 with
    | true =>
      show (match findI o.s.snd es 0 with | some i => _ | none => _) = _
      cases findI o.s.snd es 0 <;> rfl
    | false =>
      cases o.k == 2 <;> rfl
theorem doU_okU {srt : List Prt → List Prt} (own : Ck) (win : Int) (es : TabE) (o : Opp) (hn : es.length ≤ 5) : (doU srt own win es o).1.okU es.length ∧ ((doU srt own win es o).1.tab es).length ≤ 5 := by
  unfold doU
  cases o.k == 0 with
  | true =>
    cases badB own o.s o.now with
    | true => exact ⟨trivial, hn⟩
    | false =>
      cases hf : findI o.s.snd es 0 with
      | some i =>
        obtain ⟨_, h2, _⟩ := find_some hf
        dsimp only
        cases decide ((es.getD i default).2.t0 > o.now) with
        | true => exact ⟨trivial, hn⟩
        | false => exact ⟨by show i < es.length; omega, by show (es.set i _).length ≤ 5; rw [List.length_set]; exact hn⟩
      | none =>
        dsimp only
        cases hb : Nat.ble 5 es.length with
        | false =>
          have : es.length < 5 := by
            rcases Nat.lt_or_ge es.length 5 with h | h
            · exact h
            · rw [Nat.ble_eq.mpr h] at hb; cases hb
          exact ⟨this, by show (es ++ [_]).length ≤ 5; rw [List.length_append, List.length_singleton]; omega⟩
        | true =>
          cases ovB srt es win o.now with
          | false => exact ⟨trivial, hn⟩
          | true =>
            cases hg : findI (ovP srt es win o.now) es 0 with
            | none => exact ⟨trivial, hn⟩
            | some i =>
              obtain ⟨_, h2, _⟩ := find_some hg
              refine ⟨by show i < es.length; omega, ?_⟩
              show (es.eraseIdx i ++ [_]).length ≤ 5
              rw [List.length_append, List.length_singleton, List.length_eraseIdx_of_lt (by omega)]
              omega
  | false =>
    cases o.k == 1 with
    | true =>
      cases hf : findI o.s.snd es 0 with
      | none => exact ⟨trivial, hn⟩
      | some i =>
        obtain ⟨_, h2, _⟩ := find_some hf
        refine ⟨by show i < es.length; omega, ?_⟩
        show (es.eraseIdx i).length ≤ 5
        rw [List.length_eraseIdx_of_lt (by omega)]
        omega
    | false =>
      cases o.k == 2 with
      | true => exact ⟨trivial, Nat.zero_le _⟩
      | false => exact ⟨trivial, hn⟩
end Go.Proofs.Ytgdalboilghciaa

set_option maxRecDepth 100000
set_option linter.unusedSimpArgs false
set_option linter.unusedVariables false
namespace Go.Proofs.Ytgdalboilghciaa
open Go.Rx
abbrev biV (m : Nat) (k : Int) : List V := [.ptr 0 0 0 0, .sl 1 0 0 32 m none, .int .i64 (m : Int), .int .i64 k]
abbrev biB (own : Ck) (ev : Int) (rs : List (List V)) : List Blk := [Body.cells (own.vs ++ [.int .i64 ev]), Body.rows stK rs]
noncomputable abbrev biRd (vals : List V) (bs : List Blk) : Tree LRes := evRound P (specsOf []) (loopsOf []) 82 [2, 57, 58, 59] [4] (loopAt Try.f5 1) vals bs
def rowS (r : List V) : Ste := ⟨(V.toInt (r.getD 0 V.any)), (V.toInt (r.getD 1 V.any)), ⟨(V.toInt (r.getD 2 V.any)), (V.toInt (r.getD 3 V.any)), (V.toInt (r.getD 4 V.any))⟩, ⟨(V.toInt (r.getD 5 V.any)), (V.toInt (r.getD 6 V.any)), (V.toInt (r.getD 7 V.any)), (V.toInt (r.getD 8 V.any)), (V.toInt (r.getD 9 V.any)), (V.toInt (r.getD 10 V.any)), (V.toInt (r.getD 11 V.any)), (V.toInt (r.getD 12 V.any))⟩, (V.toInt (r.getD 13 V.any)), ⟨⟨(V.toInt (r.getD 14 V.any)), (V.toInt (r.getD 15 V.any)), (V.toInt (r.getD 16 V.any)), (V.toInt (r.getD 17 V.any)), (V.toInt (r.getD 18 V.any)), (V.toInt (r.getD 19 V.any)), (V.toInt (r.getD 20 V.any)), (V.toInt (r.getD 21 V.any))⟩, (V.toInt (r.getD 22 V.any))⟩, ⟨⟨(V.toInt (r.getD 23 V.any)), (V.toInt (r.getD 24 V.any)), (V.toInt (r.getD 25 V.any)), (V.toInt (r.getD 26 V.any)), (V.toInt (r.getD 27 V.any)), (V.toInt (r.getD 28 V.any)), (V.toInt (r.getD 29 V.any)), (V.toInt (r.getD 30 V.any))⟩, (V.toInt (r.getD 31 V.any))⟩⟩
theorem rowS_vs (s : Ste) : rowS s.vs = s := rfl
def biT (own : Ck) (k : Int) (m : Nat) (rs : List (List V)) (s : Ste) : Tree LRes :=
  .ite (decide (k < (m : Int))) (.ite (decide (0 ≤ k) && decide (k < (m : Int))) (.ite (decide (0 + k.toNat < rs.length))
    (.ite (s.snd.c.eqB own) (.leaf ⟨.ret, [.fls], [none, none], []⟩) (.ite (decide (s.st < 0)) (.leaf ⟨.ret, [.fls], [none, none], []⟩) (.ite (decide (s.st ≥ 255)) (.leaf ⟨.ret, [.fls], [none, none], []⟩) (.leaf ⟨.nrm, biV m (IntKind.i64.wrap (k + 1)), [none, none], []⟩))))
    .fail) .fail) (.leaf ⟨.exit 2, [.any], [none, none], []⟩)
theorem bi (own : Ck) (ev k : Int) (m : Nat) (rs : List (List V)) : (biRd (biV m k) (biB own ev rs)).den = Tree.den (biT own k m rs (rowS (rs.getD (0 + k.toNat) []))) := by
  kernel_rfl
def goodS (own : Ck) (s : Ste) : Prop := s.snd.c.eqB own = false ∧ 0 ≤ s.st ∧ s.st < 255
noncomputable def okS (own : Ck) (m : Nat) (rs : List (List V)) : Bool := @decide (∃ l : List Ste, rs = l.map Ste.vs ∧ l.length = m ∧ ∀ s ∈ l, goodS own s) (Classical.propDecidable _)
theorem okS_iff {own : Ck} {m : Nat} {rs : List (List V)} : okS own m rs = true ↔ ∃ l : List Ste, rs = l.map Ste.vs ∧ l.length = m ∧ ∀ s ∈ l, goodS own s := by
  unfold okS
  exact ⟨fun h => @of_decide_eq_true _ (Classical.propDecidable _) h, fun h => @decide_eq_true _ (Classical.propDecidable _) h⟩
noncomputable def biF (vals : List V) (bs : List Blk) : Tree LRes := match vals, bs with
  | [.ptr 0 0 0 0, .sl 1 0 0 32 m none, .int .i64 m', .int .i64 0], [Body.cells xc, Body.rows sch rs] => match Ck.p xc with
    | some (own, [.int .i64 ev]) => .lit (decide (sch = stK)) (.need (okS own m rs && (decide (m ≤ 1000) && decide (m' = (m : Int)))) (.leaf ⟨.exit 2, [.any], [none, none], []⟩))
    | _ => .fail
  | _, _ => .fail
noncomputable abbrev biL : LSpec := ⟨82, [2, 57, 58, 59], [4], biF⟩
theorem bi_all (own : Ck) (ev : Int) (l : List Ste) (hl : l.length ≤ 1000) (hg : ∀ s ∈ l, goodS own s) : ∀ (rest : List Ste) (k : Nat), l.drop k = rest → k ≤ l.length →
    ∃ f, (loopN P (specsOf []) (loopsOf []) 82 [2, 57, 58, 59] [4] (loopAt Try.f5 1) f (biV l.length k) (biB own ev (l.map Ste.vs))).den = some ⟨.exit 2, [.any], [none, none], []⟩ := by
  intro rest
  induction rest with
  | nil =>
    intro k hd hk
    have hk5 : k = l.length := by
      have := congrArg List.length hd
      rw [List.length_drop, List.length_nil] at this
      omega
    refine ⟨1, ?_⟩
    have hx := bi own ev k l.length (l.map Ste.vs)
    unfold biT at hx
    rw [decide_eq_false (show ¬ ((k : Nat) : Int) < (l.length : Int) by omega)] at hx
    exact loopN_end hx (by show Ex.exit 2 ≠ Ex.nrm; decide)
  | cons x rest ih =>
    intro k hd hk
    obtain ⟨hx, hd', hkl⟩ := drop_cons hd
    have st := bi own ev k l.length (l.map Ste.vs)
    obtain ⟨g1, g2, g3⟩ := hg x (List.mem_of_getElem? hx)
    have hrow : rowS ((l.map Ste.vs).getD (0 + ((k : Nat) : Int).toNat) []) = x := by
      rw [Int.toNat_natCast, Nat.zero_add, List.getD_eq_getElem?_getD, List.getElem?_map, hx]
      exact rowS_vs x
    have wk : IntKind.i64.wrap (((k : Nat) : Int) + 1) = ((k + 1 : Nat) : Int) := by rw [wrap64_id (by omega) (by omega)]; omega
    rw [hrow] at st
    unfold biT at st
    rw [decide_eq_true (show ((k : Nat) : Int) < (l.length : Int) by omega), decide_eq_true (show (0 : Int) ≤ ((k : Nat) : Int) by omega), g1, decide_eq_false (show ¬ x.st < 0 by omega), decide_eq_false (show ¬ x.st ≥ 255 by omega), wk,
      decide_eq_true (show 0 + ((k : Nat) : Int).toNat < (l.map Ste.vs).length by rw [Int.toNat_natCast, List.length_map]; omega)] at st
    obtain ⟨f, hf⟩ := ih (k + 1) hd' (by omega)
    refine ⟨f + 1, ?_⟩
    refine loopN_step (r1 := ⟨.nrm, biV l.length (k + 1 : Nat), [none, none], []⟩) st rfl (vals' := biV l.length (k + 1 : Nat)) (bs' := biB own ev (l.map Ste.vs)) (by kernel_rfl) (by kernel_rfl) (by kernel_rfl) hf ?_
    (show (seqAfter _ _ _).den = some _; kernel_rfl)
theorem bi_loop : LoopOK P (loopAt Try.f5 1) biL := by
  refine loop_ok (GammaOK.nil P) hm (Λ := loopsOf []) (LoopsOK.nil (by kernel_rfl)) biL ?_
  intro vals bs r h
  change (biF vals bs).den = some r at h
  unfold biF at h
  split at h
  · rename_i m m' xc sch rs
    split at h
    · rename_i own ev hx
      have hx := Ck.p_eq hx
      rw [den_lit, den_need, denLf] at h
      obtain ⟨h1, h2, h⟩ := h
      simp only [decide_eq_true_eq] at h1
      simp only [Bool.and_eq_true, decide_eq_true_eq, okS_iff] at h2
      obtain ⟨⟨l, rfl, rfl, hg⟩, h3, rfl⟩ := h2
      cases h
      subst h1 hx
      exact bi_all own ev l h3 hg l 0 rfl (Nat.zero_le _)
    · simp [den_fail] at h
  · simp [den_fail] at h
end Go.Proofs.Ytgdalboilghciaa

set_option maxRecDepth 100000
set_option linter.unusedSimpArgs false
set_option linter.unusedVariables false
namespace Go.Proofs.Ytgdalboilghciaa
open Go.Rx
abbrev opK : List K := [.int .i64, .int .i64, .int .i64, .int .i64, .int .i64, .int .i64, .int .i64, .int .u8, .int .u8, .int .u8, .int .u8, .int .u8, .int .u8, .int .u8, .int .u8, .int .i64, .int .u8, .int .u8, .int .u8, .int .u8, .int .u8, .int .u8, .int .u8, .int .u8, .int .i64, .int .u8, .int .u8, .int .u8, .int .u8, .int .u8, .int .u8, .int .u8, .int .u8, .int .i64]
def rowO (r : List V) : Opp := ⟨(V.toInt (r.getD 0 V.any)), (V.toInt (r.getD 1 V.any)), ⟨(V.toInt (r.getD 2 V.any)), (V.toInt (r.getD 3 V.any)), ⟨(V.toInt (r.getD 4 V.any)), (V.toInt (r.getD 5 V.any)), (V.toInt (r.getD 6 V.any))⟩, ⟨(V.toInt (r.getD 7 V.any)), (V.toInt (r.getD 8 V.any)), (V.toInt (r.getD 9 V.any)), (V.toInt (r.getD 10 V.any)), (V.toInt (r.getD 11 V.any)), (V.toInt (r.getD 12 V.any)), (V.toInt (r.getD 13 V.any)), (V.toInt (r.getD 14 V.any))⟩, (V.toInt (r.getD 15 V.any)), ⟨⟨(V.toInt (r.getD 16 V.any)), (V.toInt (r.getD 17 V.any)), (V.toInt (r.getD 18 V.any)), (V.toInt (r.getD 19 V.any)), (V.toInt (r.getD 20 V.any)), (V.toInt (r.getD 21 V.any)), (V.toInt (r.getD 22 V.any)), (V.toInt (r.getD 23 V.any))⟩, (V.toInt (r.getD 24 V.any))⟩, ⟨⟨(V.toInt (r.getD 25 V.any)), (V.toInt (r.getD 26 V.any)), (V.toInt (r.getD 27 V.any)), (V.toInt (r.getD 28 V.any)), (V.toInt (r.getD 29 V.any)), (V.toInt (r.getD 30 V.any)), (V.toInt (r.getD 31 V.any)), (V.toInt (r.getD 32 V.any))⟩, (V.toInt (r.getD 33 V.any))⟩⟩⟩
theorem rowO_vs (o : Opp) : rowO o.vs = o := rfl
abbrev bpV (n : Nat) (i : Int) : List V := [.ptr 0 0 0 0, .ptr 1 0 0 0, .sl 2 0 0 34 n none, .int .i64 (n : Int), .int .i64 i]
abbrev bpB (own' : Ck) (ev : Int) (own : Ck) (win : Int) (rs : List (List V)) (es : TabE) : List Blk := Body.cells (own'.vs ++ [.int .i64 ev]) :: tabC 3 own win :: Body.rows opK rs :: tabM 3 es
def quRes (n : Nat) (F : List Ste) : Res := ⟨.sl (n + 2) 0 0 32 F.length none, noneU n, [.rows stK (F.map Ste.vs)]⟩
noncomputable abbrev bpG (A : List V) (B : List Blk) (R : Res) (A2 : List V) (B2 : List Blk) (R2 : Res) : List (Nat × Rx.Spec) := [(14, orS A B R), (13, leS), (15, fFn P (specsOf []) (loopsOf []) Try.f15), (10, alS), (12, orS A2 B2 R2)]
noncomputable abbrev bpRd (A : List V) (B : List Blk) (R : Res) (A2 : List V) (B2 : List Blk) (R2 : Res) (vals : List V) (bs : List Blk) : Tree LRes := evRound P (specsOf (bpG A B R A2 B2 R2)) (loopsOf [(11, biL)]) 82 [2, 5, 31, 32, 33] [4] (loopAt Try.f5 0) vals bs
def bpL (n : Nat) (i : Int) (es : TabE) (u : Up) : LRes := ⟨.nrm, bpV n (IntKind.i64.wrap (i + 1)), none :: none :: none :: u.upd 3 es, u.news⟩
def bpF (es : TabE) (u : Up) : LRes := ⟨.ret, [.tru], none :: none :: none :: u.upd 3 es, u.news⟩
noncomputable def bpT (own' : Ck) (o : Opp) (F : List Ste) (q : Bool) (L R : LRes) : Tree LRes :=
  .ite (decide (o.now < -4611686018427387904)) (.leaf R) (.ite (decide (o.now > 4611686018427387904)) (.leaf R) (.ite q (.ite (okS own' F.length (F.map Ste.vs) && (decide (F.length ≤ 1000) && decide ((F.length : Int) = (F.length : Int)))) (.leaf L) .fail) .fail))
noncomputable def bpX (n : Nat) (i : Int) (rs : List (List V)) (q : Bool) (T : Tree LRes) (E : LRes) : Tree LRes :=
  .ite (decide (i < (n : Int))) (.ite (decide (0 ≤ i) && decide (i < (n : Int))) (.ite (decide (0 + i.toNat < rs.length)) (.ite q T .fail) .fail) .fail) (.leaf E)
def bpE (n : Nat) : LRes := ⟨.exit 0, [.any], List.replicate (n + 4) none, []⟩
/-- A round, with the calls answered so. -/
def BpFacts (own' : Ck) (ev : Int) (own : Ck) (win : Int) (rs : List (List V)) (n : Nat) (i : Int) (o : Opp) (t now : Int) (F : List Ste) (es : TabE) (u : Up) : Prop :=
  Tree.den (bpRd [.ptr 0 0 0 0, o.v] (tabB own win es) (Up.res es t u) [.ptr 0 0 0 0, .int .i64 now] (tabB own win (u.tab es)) (quRes (u.tab es).length F) (bpV n i) (bpB own' ev own win rs es)) = Tree.den (bpX n i rs (eqAB [.ptr 0 0 0 0, (rowO (rs.getD (0 + i.toNat) [])).v] [.ptr 0 0 0 0, o.v] (tabB own win es) (tabB own win es))
      (bpT own' (rowO (rs.getD (0 + i.toNat) [])) F (eqAB [.ptr 0 0 0 0, .int .i64 (rowO (rs.getD (0 + i.toNat) [])).now] [.ptr 0 0 0 0, .int .i64 now] (tabB own win (u.tab es)) (tabB own win (u.tab es))) (bpL n i es u) (bpF es u)) (bpE es.length)) ∧
  seqOk (bpB own' ev own win rs es) (bpL n i es u) = true ∧ seqVals (bpB own' ev own win rs es) (bpL n i es u) = bpV n (IntKind.i64.wrap (i + 1)) ∧ seqBlks (bpB own' ev own win rs es) (bpL n i es u) = bpB own' ev own win rs (u.tab es) ∧
  [0, 2].all (keptB (bpL n i es u).upd) = true ∧ [0, 2].all (fun b => (seqLs (bpB own' ev own win rs es) (bpL n i es u))[b]? == some b) = true ∧ [0, 2].all (keptB (bpF es u).upd) = true
end Go.Proofs.Ytgdalboilghciaa

set_option maxRecDepth 100000
set_option linter.unusedSimpArgs false
set_option linter.unusedVariables false
namespace Go.Proofs.Ytgdalboilghciaa
open Go.Rx
theorem bp_0_keep (ow : Ck) (ev : Int) (own : Ck) (win : Int) (rs : List (List V)) (n : Nat) (i : Int) (o : Opp) (t now : Int) (F : List Ste)  : BpFacts ow ev own win rs n i o t now F [] .keep := ⟨by kernel_rfl, by kernel_rfl, by kernel_rfl, by kernel_rfl, by kernel_rfl, by kernel_rfl, by kernel_rfl⟩
theorem bp_0_same (ow : Ck) (ev : Int) (own : Ck) (win : Int) (rs : List (List V)) (n : Nat) (i : Int) (o : Opp) (t now : Int) (F : List Ste)  : BpFacts ow ev own win rs n i o t now F [] .same := ⟨by kernel_rfl, by kernel_rfl, by kernel_rfl, by kernel_rfl, by kernel_rfl, by kernel_rfl, by kernel_rfl⟩
theorem bp_0_clear (ow : Ck) (ev : Int) (own : Ck) (win : Int) (rs : List (List V)) (n : Nat) (i : Int) (o : Opp) (t now : Int) (F : List Ste)  : BpFacts ow ev own win rs n i o t now F [] .clear := ⟨by kernel_rfl, by kernel_rfl, by kernel_rfl, by kernel_rfl, by kernel_rfl, by kernel_rfl, by kernel_rfl⟩
theorem bp_0_app (ow : Ck) (ev : Int) (own : Ck) (win : Int) (rs : List (List V)) (n : Nat) (i : Int) (o : Opp) (t now : Int) (F : List Ste)  (p : Prt) (e : Ent) : BpFacts ow ev own win rs n i o t now F [] (.app p e) := ⟨by kernel_rfl, by kernel_rfl, by kernel_rfl, by kernel_rfl, by kernel_rfl, by kernel_rfl, by kernel_rfl⟩
theorem bpn_0 (ow : Ck) (ev : Int) (own : Ck) (win : Int) (rs : List (List V)) (n : Nat) (i : Int) (o : Opp) (t now : Int) (F : List Ste)  (u : Up) (hu : u.okU 0) : BpFacts ow ev own win rs n i o t now F [] u := by
  cases u with
  | keep => exact bp_0_keep ow ev own win rs n i o t now F  
  | same => exact bp_0_same ow ev own win rs n i o t now F  
  | clear => exact bp_0_clear ow ev own win rs n i o t now F  
  | set i e =>
    exact absurd hu (Nat.not_lt_zero _)
  | drop i =>
    exact absurd hu (Nat.not_lt_zero _)
  | app p e => exact bp_0_app ow ev own win rs n i o t now F   p e
  | evi i p e =>
    exact absurd hu (Nat.not_lt_zero _)
end Go.Proofs.Ytgdalboilghciaa

set_option maxRecDepth 100000
set_option linter.unusedSimpArgs false
set_option linter.unusedVariables false
namespace Go.Proofs.Ytgdalboilghciaa
open Go.Rx
theorem bp_1_keep (ow : Ck) (ev : Int) (own : Ck) (win : Int) (rs : List (List V)) (n : Nat) (i : Int) (o : Opp) (t now : Int) (F : List Ste) (p0 : Prt) (e0 : Ent) : BpFacts ow ev own win rs n i o t now F [(p0, e0)] .keep := ⟨by kernel_rfl, by kernel_rfl, by kernel_rfl, by kernel_rfl, by kernel_rfl, by kernel_rfl, by kernel_rfl⟩
theorem bp_1_same (ow : Ck) (ev : Int) (own : Ck) (win : Int) (rs : List (List V)) (n : Nat) (i : Int) (o : Opp) (t now : Int) (F : List Ste) (p0 : Prt) (e0 : Ent) : BpFacts ow ev own win rs n i o t now F [(p0, e0)] .same := ⟨by kernel_rfl, by kernel_rfl, by kernel_rfl, by kernel_rfl, by kernel_rfl, by kernel_rfl, by kernel_rfl⟩
theorem bp_1_clear (ow : Ck) (ev : Int) (own : Ck) (win : Int) (rs : List (List V)) (n : Nat) (i : Int) (o : Opp) (t now : Int) (F : List Ste) (p0 : Prt) (e0 : Ent) : BpFacts ow ev own win rs n i o t now F [(p0, e0)] .clear := ⟨by kernel_rfl, by kernel_rfl, by kernel_rfl, by kernel_rfl, by kernel_rfl, by kernel_rfl, by kernel_rfl⟩
theorem bp_1_set0 (ow : Ck) (ev : Int) (own : Ck) (win : Int) (rs : List (List V)) (n : Nat) (i : Int) (o : Opp) (t now : Int) (F : List Ste) (p0 : Prt) (e0 : Ent) (e : Ent) : BpFacts ow ev own win rs n i o t now F [(p0, e0)] (.set 0 e) := ⟨by kernel_rfl, by kernel_rfl, by kernel_rfl, by kernel_rfl, by kernel_rfl, by kernel_rfl, by kernel_rfl⟩
theorem bp_1_drop0 (ow : Ck) (ev : Int) (own : Ck) (win : Int) (rs : List (List V)) (n : Nat) (i : Int) (o : Opp) (t now : Int) (F : List Ste) (p0 : Prt) (e0 : Ent) : BpFacts ow ev own win rs n i o t now F [(p0, e0)] (.drop 0) := ⟨by kernel_rfl, by kernel_rfl, by kernel_rfl, by kernel_rfl, by kernel_rfl, by kernel_rfl, by kernel_rfl⟩
theorem bp_1_app (ow : Ck) (ev : Int) (own : Ck) (win : Int) (rs : List (List V)) (n : Nat) (i : Int) (o : Opp) (t now : Int) (F : List Ste) (p0 : Prt) (e0 : Ent) (p : Prt) (e : Ent) : BpFacts ow ev own win rs n i o t now F [(p0, e0)] (.app p e) := ⟨by kernel_rfl, by kernel_rfl, by kernel_rfl, by kernel_rfl, by kernel_rfl, by kernel_rfl, by kernel_rfl⟩
theorem bp_1_evi0 (ow : Ck) (ev : Int) (own : Ck) (win : Int) (rs : List (List V)) (n : Nat) (i : Int) (o : Opp) (t now : Int) (F : List Ste) (p0 : Prt) (e0 : Ent) (p : Prt) (e : Ent) : BpFacts ow ev own win rs n i o t now F [(p0, e0)] (.evi 0 p e) := ⟨by kernel_rfl, by kernel_rfl, by kernel_rfl, by kernel_rfl, by kernel_rfl, by kernel_rfl, by kernel_rfl⟩
theorem bpn_1 (ow : Ck) (ev : Int) (own : Ck) (win : Int) (rs : List (List V)) (n : Nat) (i : Int) (o : Opp) (t now : Int) (F : List Ste) (p0 : Prt) (e0 : Ent) (u : Up) (hu : u.okU 1) : BpFacts ow ev own win rs n i o t now F [(p0, e0)] u := by
  cases u with
  | keep => exact bp_1_keep ow ev own win rs n i o t now F p0 e0
  | same => exact bp_1_same ow ev own win rs n i o t now F p0 e0
  | clear => exact bp_1_clear ow ev own win rs n i o t now F p0 e0
  | set i e =>
    obtain rfl : i = 0 := by
      have : i < 1 := hu
      omega
    · exact bp_1_set0 ow ev own win rs n i o t now F p0 e0 e
  | drop i =>
    obtain rfl : i = 0 := by
      have : i < 1 := hu
      omega
    · exact bp_1_drop0 ow ev own win rs n i o t now F p0 e0
  | app p e => exact bp_1_app ow ev own win rs n i o t now F p0 e0 p e
  | evi i p e =>
    obtain rfl : i = 0 := by
      have : i < 1 := hu
      omega
    · exact bp_1_evi0 ow ev own win rs n i o t now F p0 e0 p e
end Go.Proofs.Ytgdalboilghciaa

set_option maxRecDepth 100000
set_option linter.unusedSimpArgs false
set_option linter.unusedVariables false
namespace Go.Proofs.Ytgdalboilghciaa
open Go.Rx
theorem bp_2_keep (ow : Ck) (ev : Int) (own : Ck) (win : Int) (rs : List (List V)) (n : Nat) (i : Int) (o : Opp) (t now : Int) (F : List Ste) (p0 p1 : Prt) (e0 e1 : Ent) : BpFacts ow ev own win rs n i o t now F [(p0, e0), (p1, e1)] .keep := ⟨by kernel_rfl, by kernel_rfl, by kernel_rfl, by kernel_rfl, by kernel_rfl, by kernel_rfl, by kernel_rfl⟩
theorem bp_2_same (ow : Ck) (ev : Int) (own : Ck) (win : Int) (rs : List (List V)) (n : Nat) (i : Int) (o : Opp) (t now : Int) (F : List Ste) (p0 p1 : Prt) (e0 e1 : Ent) : BpFacts ow ev own win rs n i o t now F [(p0, e0), (p1, e1)] .same := ⟨by kernel_rfl, by kernel_rfl, by kernel_rfl, by kernel_rfl, by kernel_rfl, by kernel_rfl, by kernel_rfl⟩
theorem bp_2_clear (ow : Ck) (ev : Int) (own : Ck) (win : Int) (rs : List (List V)) (n : Nat) (i : Int) (o : Opp) (t now : Int) (F : List Ste) (p0 p1 : Prt) (e0 e1 : Ent) : BpFacts ow ev own win rs n i o t now F [(p0, e0), (p1, e1)] .clear := ⟨by kernel_rfl, by kernel_rfl, by kernel_rfl, by kernel_rfl, by kernel_rfl, by kernel_rfl, by kernel_rfl⟩
theorem bp_2_set0 (ow : Ck) (ev : Int) (own : Ck) (win : Int) (rs : List (List V)) (n : Nat) (i : Int) (o : Opp) (t now : Int) (F : List Ste) (p0 p1 : Prt) (e0 e1 : Ent) (e : Ent) : BpFacts ow ev own win rs n i o t now F [(p0, e0), (p1, e1)] (.set 0 e) := ⟨by kernel_rfl, by kernel_rfl, by kernel_rfl, by kernel_rfl, by kernel_rfl, by kernel_rfl, by kernel_rfl⟩
theorem bp_2_drop0 (ow : Ck) (ev : Int) (own : Ck) (win : Int) (rs : List (List V)) (n : Nat) (i : Int) (o : Opp) (t now : Int) (F : List Ste) (p0 p1 : Prt) (e0 e1 : Ent) : BpFacts ow ev own win rs n i o t now F [(p0, e0), (p1, e1)] (.drop 0) := ⟨by kernel_rfl, by kernel_rfl, by kernel_rfl, by kernel_rfl, by kernel_rfl, by kernel_rfl, by kernel_rfl⟩
theorem bp_2_set1 (ow : Ck) (ev : Int) (own : Ck) (win : Int) (rs : List (List V)) (n : Nat) (i : Int) (o : Opp) (t now : Int) (F : List Ste) (p0 p1 : Prt) (e0 e1 : Ent) (e : Ent) : BpFacts ow ev own win rs n i o t now F [(p0, e0), (p1, e1)] (.set 1 e) := ⟨by kernel_rfl, by kernel_rfl, by kernel_rfl, by kernel_rfl, by kernel_rfl, by kernel_rfl, by kernel_rfl⟩
theorem bp_2_drop1 (ow : Ck) (ev : Int) (own : Ck) (win : Int) (rs : List (List V)) (n : Nat) (i : Int) (o : Opp) (t now : Int) (F : List Ste) (p0 p1 : Prt) (e0 e1 : Ent) : BpFacts ow ev own win rs n i o t now F [(p0, e0), (p1, e1)] (.drop 1) := ⟨by kernel_rfl, by kernel_rfl, by kernel_rfl, by kernel_rfl, by kernel_rfl, by kernel_rfl, by kernel_rfl⟩
theorem bp_2_app (ow : Ck) (ev : Int) (own : Ck) (win : Int) (rs : List (List V)) (n : Nat) (i : Int) (o : Opp) (t now : Int) (F : List Ste) (p0 p1 : Prt) (e0 e1 : Ent) (p : Prt) (e : Ent) : BpFacts ow ev own win rs n i o t now F [(p0, e0), (p1, e1)] (.app p e) := ⟨by kernel_rfl, by kernel_rfl, by kernel_rfl, by kernel_rfl, by kernel_rfl, by kernel_rfl, by kernel_rfl⟩
theorem bp_2_evi0 (ow : Ck) (ev : Int) (own : Ck) (win : Int) (rs : List (List V)) (n : Nat) (i : Int) (o : Opp) (t now : Int) (F : List Ste) (p0 p1 : Prt) (e0 e1 : Ent) (p : Prt) (e : Ent) : BpFacts ow ev own win rs n i o t now F [(p0, e0), (p1, e1)] (.evi 0 p e) := ⟨by kernel_rfl, by kernel_rfl, by kernel_rfl, by kernel_rfl, by kernel_rfl, by kernel_rfl, by kernel_rfl⟩
theorem bp_2_evi1 (ow : Ck) (ev : Int) (own : Ck) (win : Int) (rs : List (List V)) (n : Nat) (i : Int) (o : Opp) (t now : Int) (F : List Ste) (p0 p1 : Prt) (e0 e1 : Ent) (p : Prt) (e : Ent) : BpFacts ow ev own win rs n i o t now F [(p0, e0), (p1, e1)] (.evi 1 p e) := ⟨by kernel_rfl, by kernel_rfl, by kernel_rfl, by kernel_rfl, by kernel_rfl, by kernel_rfl, by kernel_rfl⟩
theorem bpn_2 (ow : Ck) (ev : Int) (own : Ck) (win : Int) (rs : List (List V)) (n : Nat) (i : Int) (o : Opp) (t now : Int) (F : List Ste) (p0 p1 : Prt) (e0 e1 : Ent) (u : Up) (hu : u.okU 2) : BpFacts ow ev own win rs n i o t now F [(p0, e0), (p1, e1)] u := by
  cases u with
  | keep => exact bp_2_keep ow ev own win rs n i o t now F p0 p1 e0 e1
  | same => exact bp_2_same ow ev own win rs n i o t now F p0 p1 e0 e1
  | clear => exact bp_2_clear ow ev own win rs n i o t now F p0 p1 e0 e1
  | set i e =>
    obtain rfl | rfl : i = 0 ∨ i = 1 := by
      have : i < 2 := hu
      omega
    · exact bp_2_set0 ow ev own win rs n i o t now F p0 p1 e0 e1 e
    · exact bp_2_set1 ow ev own win rs n i o t now F p0 p1 e0 e1 e
  | drop i =>
    obtain rfl | rfl : i = 0 ∨ i = 1 := by
      have : i < 2 := hu
      omega
    · exact bp_2_drop0 ow ev own win rs n i o t now F p0 p1 e0 e1
    · exact bp_2_drop1 ow ev own win rs n i o t now F p0 p1 e0 e1
  | app p e => exact bp_2_app ow ev own win rs n i o t now F p0 p1 e0 e1 p e
  | evi i p e =>
    obtain rfl | rfl : i = 0 ∨ i = 1 := by
      have : i < 2 := hu
      omega
    · exact bp_2_evi0 ow ev own win rs n i o t now F p0 p1 e0 e1 p e
    · exact bp_2_evi1 ow ev own win rs n i o t now F p0 p1 e0 e1 p e
end Go.Proofs.Ytgdalboilghciaa

set_option maxRecDepth 100000
set_option linter.unusedSimpArgs false
set_option linter.unusedVariables false
namespace Go.Proofs.Ytgdalboilghciaa
open Go.Rx
theorem bp_3_keep (ow : Ck) (ev : Int) (own : Ck) (win : Int) (rs : List (List V)) (n : Nat) (i : Int) (o : Opp) (t now : Int) (F : List Ste) (p0 p1 p2 : Prt) (e0 e1 e2 : Ent) : BpFacts ow ev own win rs n i o t now F [(p0, e0), (p1, e1), (p2, e2)] .keep := ⟨by kernel_rfl, by kernel_rfl, by kernel_rfl, by kernel_rfl, by kernel_rfl, by kernel_rfl, by kernel_rfl⟩
theorem bp_3_same (ow : Ck) (ev : Int) (own : Ck) (win : Int) (rs : List (List V)) (n : Nat) (i : Int) (o : Opp) (t now : Int) (F : List Ste) (p0 p1 p2 : Prt) (e0 e1 e2 : Ent) : BpFacts ow ev own win rs n i o t now F [(p0, e0), (p1, e1), (p2, e2)] .same := ⟨by kernel_rfl, by kernel_rfl, by kernel_rfl, by kernel_rfl, by kernel_rfl, by kernel_rfl, by kernel_rfl⟩
theorem bp_3_clear (ow : Ck) (ev : Int) (own : Ck) (win : Int) (rs : List (List V)) (n : Nat) (i : Int) (o : Opp) (t now : Int) (F : List Ste) (p0 p1 p2 : Prt) (e0 e1 e2 : Ent) : BpFacts ow ev own win rs n i o t now F [(p0, e0), (p1, e1), (p2, e2)] .clear := ⟨by kernel_rfl, by kernel_rfl, by kernel_rfl, by kernel_rfl, by kernel_rfl, by kernel_rfl, by kernel_rfl⟩
theorem bp_3_set0 (ow : Ck) (ev : Int) (own : Ck) (win : Int) (rs : List (List V)) (n : Nat) (i : Int) (o : Opp) (t now : Int) (F : List Ste) (p0 p1 p2 : Prt) (e0 e1 e2 : Ent) (e : Ent) : BpFacts ow ev own win rs n i o t now F [(p0, e0), (p1, e1), (p2, e2)] (.set 0 e) := ⟨by kernel_rfl, by kernel_rfl, by kernel_rfl, by kernel_rfl, by kernel_rfl, by kernel_rfl, by kernel_rfl⟩
theorem bp_3_drop0 (ow : Ck) (ev : Int) (own : Ck) (win : Int) (rs : List (List V)) (n : Nat) (i : Int) (o : Opp) (t now : Int) (F : List Ste) (p0 p1 p2 : Prt) (e0 e1 e2 : Ent) : BpFacts ow ev own win rs n i o t now F [(p0, e0), (p1, e1), (p2, e2)] (.drop 0) := ⟨by kernel_rfl, by kernel_rfl, by kernel_rfl, by kernel_rfl, by kernel_rfl, by kernel_rfl, by kernel_rfl⟩
theorem bp_3_set1 (ow : Ck) (ev : Int) (own : Ck) (win : Int) (rs : List (List V)) (n : Nat) (i : Int) (o : Opp) (t now : Int) (F : List Ste) (p0 p1 p2 : Prt) (e0 e1 e2 : Ent) (e : Ent) : BpFacts ow ev own win rs n i o t now F [(p0, e0), (p1, e1), (p2, e2)] (.set 1 e) := ⟨by kernel_rfl, by kernel_rfl, by kernel_rfl, by kernel_rfl, by kernel_rfl, by kernel_rfl, by kernel_rfl⟩
theorem bp_3_drop1 (ow : Ck) (ev : Int) (own : Ck) (win : Int) (rs : List (List V)) (n : Nat) (i : Int) (o : Opp) (t now : Int) (F : List Ste) (p0 p1 p2 : Prt) (e0 e1 e2 : Ent) : BpFacts ow ev own win rs n i o t now F [(p0, e0), (p1, e1), (p2, e2)] (.drop 1) := ⟨by kernel_rfl, by kernel_rfl, by kernel_rfl, by kernel_rfl, by kernel_rfl, by kernel_rfl, by kernel_rfl⟩
theorem bp_3_set2 (ow : Ck) (ev : Int) (own : Ck) (win : Int) (rs : List (List V)) (n : Nat) (i : Int) (o : Opp) (t now : Int) (F : List Ste) (p0 p1 p2 : Prt) (e0 e1 e2 : Ent) (e : Ent) : BpFacts ow ev own win rs n i o t now F [(p0, e0), (p1, e1), (p2, e2)] (.set 2 e) := ⟨by kernel_rfl, by kernel_rfl, by kernel_rfl, by kernel_rfl, by kernel_rfl, by kernel_rfl, by kernel_rfl⟩
theorem bp_3_drop2 (ow : Ck) (ev : Int) (own : Ck) (win : Int) (rs : List (List V)) (n : Nat) (i : Int) (o : Opp) (t now : Int) (F : List Ste) (p0 p1 p2 : Prt) (e0 e1 e2 : Ent) : BpFacts ow ev own win rs n i o t now F [(p0, e0), (p1, e1), (p2, e2)] (.drop 2) := ⟨by kernel_rfl, by kernel_rfl, by kernel_rfl, by kernel_rfl, by kernel_rfl, by kernel_rfl, by kernel_rfl⟩
theorem bp_3_app (ow : Ck) (ev : Int) (own : Ck) (win : Int) (rs : List (List V)) (n : Nat) (i : Int) (o : Opp) (t now : Int) (F : List Ste) (p0 p1 p2 : Prt) (e0 e1 e2 : Ent) (p : Prt) (e : Ent) : BpFacts ow ev own win rs n i o t now F [(p0, e0), (p1, e1), (p2, e2)] (.app p e) := ⟨by kernel_rfl, by kernel_rfl, by kernel_rfl, by kernel_rfl, by kernel_rfl, by kernel_rfl, by kernel_rfl⟩
theorem bp_3_evi0 (ow : Ck) (ev : Int) (own : Ck) (win : Int) (rs : List (List V)) (n : Nat) (i : Int) (o : Opp) (t now : Int) (F : List Ste) (p0 p1 p2 : Prt) (e0 e1 e2 : Ent) (p : Prt) (e : Ent) : BpFacts ow ev own win rs n i o t now F [(p0, e0), (p1, e1), (p2, e2)] (.evi 0 p e) := ⟨by kernel_rfl, by kernel_rfl, by kernel_rfl, by kernel_rfl, by kernel_rfl, by kernel_rfl, by kernel_rfl⟩
theorem bp_3_evi1 (ow : Ck) (ev : Int) (own : Ck) (win : Int) (rs : List (List V)) (n : Nat) (i : Int) (o : Opp) (t now : Int) (F : List Ste) (p0 p1 p2 : Prt) (e0 e1 e2 : Ent) (p : Prt) (e : Ent) : BpFacts ow ev own win rs n i o t now F [(p0, e0), (p1, e1), (p2, e2)] (.evi 1 p e) := ⟨by kernel_rfl, by kernel_rfl, by kernel_rfl, by kernel_rfl, by kernel_rfl, by kernel_rfl, by kernel_rfl⟩
theorem bp_3_evi2 (ow : Ck) (ev : Int) (own : Ck) (win : Int) (rs : List (List V)) (n : Nat) (i : Int) (o : Opp) (t now : Int) (F : List Ste) (p0 p1 p2 : Prt) (e0 e1 e2 : Ent) (p : Prt) (e : Ent) : BpFacts ow ev own win rs n i o t now F [(p0, e0), (p1, e1), (p2, e2)] (.evi 2 p e) := ⟨by kernel_rfl, by kernel_rfl, by kernel_rfl, by kernel_rfl, by kernel_rfl, by kernel_rfl, by kernel_rfl⟩
theorem bpn_3 (ow : Ck) (ev : Int) (own : Ck) (win : Int) (rs : List (List V)) (n : Nat) (i : Int) (o : Opp) (t now : Int) (F : List Ste) (p0 p1 p2 : Prt) (e0 e1 e2 : Ent) (u : Up) (hu : u.okU 3) : BpFacts ow ev own win rs n i o t now F [(p0, e0), (p1, e1), (p2, e2)] u := by
  cases u with
  | keep => exact bp_3_keep ow ev own win rs n i o t now F p0 p1 p2 e0 e1 e2
  | same => exact bp_3_same ow ev own win rs n i o t now F p0 p1 p2 e0 e1 e2
  | clear => exact bp_3_clear ow ev own win rs n i o t now F p0 p1 p2 e0 e1 e2
  | set i e =>
    obtain rfl | rfl | rfl : i = 0 ∨ i = 1 ∨ i = 2 := by
      have : i < 3 := hu
      omega
    · exact bp_3_set0 ow ev own win rs n i o t now F p0 p1 p2 e0 e1 e2 e
    · exact bp_3_set1 ow ev own win rs n i o t now F p0 p1 p2 e0 e1 e2 e
    · exact bp_3_set2 ow ev own win rs n i o t now F p0 p1 p2 e0 e1 e2 e
  | drop i =>
    obtain rfl | rfl | rfl : i = 0 ∨ i = 1 ∨ i = 2 := by
      have : i < 3 := hu
      omega
    · exact bp_3_drop0 ow ev own win rs n i o t now F p0 p1 p2 e0 e1 e2
    · exact bp_3_drop1 ow ev own win rs n i o t now F p0 p1 p2 e0 e1 e2
    · exact bp_3_drop2 ow ev own win rs n i o t now F p0 p1 p2 e0 e1 e2
  | app p e => exact bp_3_app ow ev own win rs n i o t now F p0 p1 p2 e0 e1 e2 p e
  | evi i p e =>
    obtain rfl | rfl | rfl : i = 0 ∨ i = 1 ∨ i = 2 := by
      have : i < 3 := hu
      omega
    · exact bp_3_evi0 ow ev own win rs n i o t now F p0 p1 p2 e0 e1 e2 p e
    · exact bp_3_evi1 ow ev own win rs n i o t now F p0 p1 p2 e0 e1 e2 p e
    · exact bp_3_evi2 ow ev own win rs n i o t now F p0 p1 p2 e0 e1 e2 p e
end Go.Proofs.Ytgdalboilghciaa
