/- The abstract evaluator: what is given up, what is only read; the program's structs. No condition. -/
import Derived.Test.YtgdalboilghciaaRxB
set_option linter.unusedSimpArgs false
set_option linter.unusedVariables false
set_option linter.unnecessarySimpa false
set_option linter.unusedSectionVars false
namespace Go.Rx
open Go.ChangeShapes Go.WideShapes Go.ChangeAt Go.RowKit

def ckI64 : CK → Bool
  | .sl _ ks => ks.head? == some (.int .i64)
  | .k _ => true
section
variable {P : Program} {H : Type} {enc : TypeId × Value → H} {w : World}
theorem segsOf_i64 {ps : List MemPlace} (hf : w.noneFrozen ps) : ∀ (l : List CK) (cs : List Value), l.all ckI64 = true → CksOK w ps l cs →
    ∀ s ∈ segsOf l cs, 0 < s.R → ∃ arr e fr n, w.heap[s.r]? = some (.cells arr e fr) ∧ arr[s.base]? = some (.int .i64 n)
  | [], _, _, _, s, hs => by simp [segsOf] at hs
  | .k k :: l, cs, hl, h, s, hs => by
    obtain ⟨x, xs, rfl, _, h2⟩ := h
    simp only [segsOf] at hs
    simp only [List.all_cons, Bool.and_eq_true] at hl
    exact segsOf_i64 hf l xs hl.2 h2 s hs
  | .sl b ks :: l, cs, hl, h, s, hs => by
    obtain ⟨x, xs, rfl, h1, h2⟩ := h
    simp only [List.all_cons, Bool.and_eq_true] at hl
    simp only [segsOf, List.mem_cons] at hs
    rcases hs with rfl | hs
    · intro hR
      obtain ⟨ks', rfl⟩ : ∃ ks', ks = .int .i64 :: ks' := by
        have := hl.1
        simp only [ckI64, beq_iff_eq] at this
        cases ks with
        | nil => cases this
        | cons k0 ks' => simp only [List.head?_cons, Option.some.injEq] at this; subst this; exact ⟨ks', rfl⟩
      obtain ⟨len, R, a, cap, hx, hle, hcb, ha, hRR, hk, hcell⟩ := row_cells (by simp) h1 hf
      have hc : 0 < cap := by
        rw [hRR] at hR
        exact Nat.pos_of_mul_pos_right hR |> fun h => by
          by_cases h0 : cap = 0
          · subst h0; simp at hR
          · omega
      obtain ⟨arr, e, fr, hh, _, _, hget⟩ := hcell hc
      obtain ⟨y, ys, hy, hky, _⟩ := hk 0 hc
      obtain ⟨n, rfl, _⟩ := hky
      refine ⟨arr, e, fr, n, hh, ?_⟩
      have := hget 0 0 hc (by simp)
      rw [hy] at this
      simpa using this
    · exact segsOf_i64 hf l xs hl.2 h2 s hs
theorem segsP_i64 {qs : List MemPlace} (hf : w.noneFrozen qs) : ∀ (ts : List TypeId) (pl : List (Bool × List CK)) (vs : List Value) (ds : List (DataW H)) (ps : List MemPlace),
    parsT P ts = some pl → DataW.TrodAll enc P w 0 (fun _ => true) true ts vs ds ps → (∀ p ∈ ps, p ∈ qs) → small (DataW.weightsEach P ts ds) → pl.all (fun g => g.2.all ckI64) = true →
    ∀ s ∈ segsP pl vs, 0 < s.R → ∃ arr e fr n, w.heap[s.r]? = some (.cells arr e fr) ∧ arr[s.base]? = some (.int .i64 n)
  | [], pl, vs, ds, ps, hp, ht, _, _, _, s, hs => by
    simp only [parsT, Option.some.injEq] at hp; subst hp
    simp [segsP] at hs
  | t :: ts, pl, vs, ds, ps, hp, ht, hsub, hw, hl, s, hs => by
    simp only [parsT] at hp
    split at hp
    · rename_i g gl h1 h2
      simp only [Option.some.injEq] at hp; subst hp
      obtain ⟨g, l⟩ := g
      obtain ⟨v, vs', d, ds', p, q, rfl, rfl, rfl, ⟨fuel, hd⟩, hr⟩ := trodAll_cons ht
      have hck : ckT P 20 t = some l := by
        unfold parT at h1
        split at h1
        · split at h1
          · cases h1; assumption
          · cases h1
        · split at h1
          · cases h1; assumption
          · cases h1
        · cases h1
      have hcs := (trod_ck 20 t l hck fuel _ d p hd (weightsEach_get hw 0 t d rfl rfl)).sub (qs := qs) fun x hx => hsub x (List.mem_append.2 (.inl hx))
      have hw' : small (DataW.weightsEach P ts ds') := fun x hx => hw x (by simp only [DataW.weightsEach]; exact List.mem_append.2 (.inr hx))
      simp only [List.all_cons, Bool.and_eq_true] at hl
      simp only [segsP, List.mem_append] at hs
      rcases hs with hs | hs
      · exact segsOf_i64 hf l _ hl.1 hcs s hs
      · exact segsP_i64 hf ts gl vs' ds' q h2 hr (fun x hx => hsub x (List.mem_append.2 (.inr hx))) hw' hl.2 s hs
    · cases hp
end
/-- The step of a row that lists variables, and whose arguments hold slices of numbers. -/
theorem law_lifted_slices [Glob] {C : Checked} {os : Os} (started : os.Started) {H : Type} {enc : TypeId × Value → H} (own : ownKnob C.prog.godebug = none) (hl : laidOutB C.prog = true) {k : FuncId} {fn : Func} (hfn : C.prog.funcs[k]? = some fn) (noInit : C.prog.inits.idxOf? k = none)
    {S : ChangeSpec} {conds : List PathCond} {X : World → Array Value → Prop} (hX : ∀ (w w' : World) (args : Array Value), w.heap = w'.heap → X w args → X w' args)
    (hv : S.vars = []) (hS : ∀ ds : List (DataW H), ds.length = fn.params.size → S.fn H ds = { results := [.lit (.bool true)], args := ds })
    {tb : TypeId} (hres : fn.resultTypes = #[tb]) (hb : C.prog.underlying tb = some .bool) (hrd : fn.params.toList.all (fun t => C.prog.readableRec t && decide (t < C.prog.types.size)) = true)
    (witness : ∃ (w : World) (tape : Tape) (i : Input), w.os = os ∧ (w.forCall tape i).Shaped C.prog ∧ i.vars = [] ∧ Input.okWide C.prog (w.forCall tape i) .any w.heap.size k i ∧
      ((S.pre enc C.prog fn conds false (w.forCall tape i).memory i.args ∧ X (w.forCall tape i).memory i.args) ∧ sizedMet enc C.prog fn (OpenSpec.ofChange S) false (w.forCall tape i).memory i.args) ∧ ({} : Assume).holds C.prog (lone (Frame.enter C.prog k i.args .normal) [] (w.forCall tape i)))
    {s : Spec} (hs : SpecOK C.prog k s) {pl : List (Bool × List CK)} (hpl : parsT C.prog fn.params.toList = some pl) (hone : Nat.ble (countSl pl) 1 = true) (h64 : pl.all (fun g => g.2.all ckI64) = true)
    (fits : AllP pl 0 fun as bs => ∃ u n, (s as bs).den = some ⟨.bool true, u, n⟩ ∧ u.all Option.isNone = true)
    (hglob : ∀ (W : World) (args : Array Value), X W args → Glob.N ≤ W.heap.size ∧ Glob.G fun i => W.heap[i]?)
    (hkind : ∀ (W : World) (args : Array Value), X W args → ∀ r, r < Glob.N → ∀ arr e fr, W.heap[r]? = some (.cells arr e fr) → ∀ (i : Nat) n, arr[i]? ≠ some (.int .i64 n)) :
    ReturnsInHanded {} C os k .any (fun w args => (S.pre enc C.prog fn conds false w args ∧ X w args) ∧ sizedMet enc C.prog fn (OpenSpec.ofChange S) false w args) (S.post enc C.prog fn false true false false) := by
  refine returnsInHanded_of_change_and (X := X) hX own started noInit hfn witness ?_
  intro W base args ds gs before hval hW hcnd hsz hx _
  refine law_contract hl hv hS hres hb hrd hs hpl hone fits W base args ds gs before hval hW hsz (hglob W args hx).1 (hglob W args hx).2 ?_
  intro sg hsg hR
  obtain ⟨p, q, hA, hV, rfl, hfz, hnd⟩ := hW
  rw [hv] at hV
  obtain ⟨rfl, rfl⟩ := trodVars_none hV
  have hsm : small (DataW.weightsEach C.prog fn.params.toList ds) := by
    intro n hn
    have hvt : S.plain.varTypes C.prog = [] := by
      show S.vars.filterMap _ = []
      rw [hv]; rfl
    rw [hvt] at hsz
    simp only [List.append_nil] at hsz
    have := List.all_eq_true.1 hsz n hn
    simpa using this
  obtain ⟨arr, e, fr, n, hh, ha⟩ := segsP_i64 hfz fn.params.toList pl args.toList ds p hpl hA (fun x hx => List.mem_append.2 (.inl hx)) hsm h64 sg hsg hR
  by_cases hc : Glob.N ≤ sg.r
  · exact hc
  · exact absurd ha (hkind W args hx sg.r (by omega) arr e fr hh _ n)
end Go.Rx

namespace Go.Rx
/-- The same, but for blocks that are given up. -/
def gu : List (Option (Option Blk)) → List (Option (Option Blk)) → Prop
  | [], [] => True
  | x :: u, y :: v => (y = x ∨ y = some none) ∧ gu u v
  | _, _ => False
theorem gu_get : ∀ {u v : List (Option (Option Blk))}, gu u v → ∀ b, v[b]? = u[b]? ∨ (v[b]? = some (some none) ∧ b < u.length)
  | [], [], _, b => .inl rfl
  | [], _ :: _, h, _ => h.elim
  | _ :: _, [], h, _ => h.elim
  | x :: u, y :: v, ⟨h1, h2⟩, b => by
    cases b with
    | zero =>
      rcases h1 with rfl | rfl
      · exact .inl rfl
      · exact .inr ⟨rfl, by simp⟩
    | succ b => simpa using gu_get h2 b
theorem PostR.give {ρ ρ' : Rho} {nb : Nat} {x : V} {u v : List (Option (Option Blk))} {n : List Blk} {y : Value} {w w' : World} (h : PostR ρ nb ⟨x, u, n⟩ y w w' ρ') (hg : gu u v) : PostR ρ nb ⟨x, v, n⟩ y w w' ρ' := by
  refine ⟨h.le, h.dom, h.val, ?_, h.new, ?_, ?_, h.inj⟩
  · intro b z hb
    simp only at hb
    rcases gu_get hg b with e | ⟨e, _⟩
    · exact h.old b z (by simpa [e] using hb)
    · rw [e] at hb; simp at hb; exact .inl hb.symm
  · refine h.fr.weaken fun b hb => ?_
    obtain ⟨z, hz⟩ := hb
    simp only at hz ⊢
    rcases gu_get hg b with e | ⟨e, _⟩
    · exact ⟨z, by rw [e]; exact hz⟩
    · exact ⟨none, e⟩
  · intro j s hj
    rcases h.fresh j s hj with h1 | h1 | ⟨c, t, h1, h2⟩
    · exact .inl h1
    · exact .inr (.inl h1)
    · refine .inr (.inr ⟨c, t, ?_, h2⟩)
      simp only at h1 ⊢
      rcases gu_get hg c with e | ⟨e, _⟩
      · rw [e]; exact h1
      · exact e
theorem specGive [Glob] {P : Program} {k : FuncId} {s s' : Spec} (h : SpecOK P k s) (hs : ∀ args bs r, (s' args bs).den = some r → ∃ u, (s args bs).denN = some (Res.nrm ⟨r.v, u, r.new⟩) ∧ gu u r.upd) : SpecOK P k s' := by
  refine ⟨?_, h.good⟩
  intro args bs r hr ρ xs w hx hbs
  obtain ⟨u, hu, hg⟩ := hs args bs r hr
  unfold Tree.denN at hu
  obtain ⟨r0, h0, he⟩ := Option.map_eq_some_iff.1 hu
  refine (h.correct args bs r0 h0 ρ xs w hx hbs).mono ?_
  rintro e w' ⟨v, ρ', rfl, hp⟩
  refine ⟨v, ρ', rfl, ?_⟩
  have : PostR ρ bs.length ⟨r.v, u, r.new⟩ v w w' ρ' := by
    refine PostR.nrm.1 ?_
    rw [← he]
    exact PostR.nrm.2 hp
  exact this.give hg
theorem specGive' [Glob] {P : Program} {k : FuncId} {s0 s' : Spec} (h0 : SpecOK P k s0) (hs : ∀ args bs r, (s' args bs).den = some r → ∃ s u, SpecOK P k s ∧ (s args bs).denN = some (Res.nrm ⟨r.v, u, r.new⟩) ∧ gu u r.upd) : SpecOK P k s' := by
  refine ⟨?_, h0.good⟩
  intro args bs r hr ρ xs w hx hbs
  obtain ⟨s, u, h, hu, hg⟩ := hs args bs r hr
  unfold Tree.denN at hu
  obtain ⟨r1, h1, he⟩ := Option.map_eq_some_iff.1 hu
  refine (h.correct args bs r1 h1 ρ xs w hx hbs).mono ?_
  rintro e w' ⟨v, ρ', rfl, hp⟩
  refine ⟨v, ρ', rfl, ?_⟩
  have : PostR ρ bs.length ⟨r.v, u, r.new⟩ v w w' ρ' := by
    refine PostR.nrm.1 ?_
    rw [← he]
    exact PostR.nrm.2 hp
  exact this.give hg
end Go.Rx

namespace Go.Rx
open Go.ChangeShapes Go.WideShapes Go.ChangeAt Go.RowKit

def ckSix : CK → Bool
  | .sl _ ks => ks.head? == some (.int .i64) && Nat.ble 6 ks.length
  | .k _ => true
section
variable {P : Program} {H : Type} {enc : TypeId × Value → H} {w : World}
theorem segsOf_six {ps : List MemPlace} (hf : w.noneFrozen ps) : ∀ (l : List CK) (cs : List Value), l.all ckSix = true → CksOK w ps l cs →
    ∀ s ∈ segsOf l cs, 0 < s.R → ∃ arr e fr n, w.heap[s.r]? = some (.cells arr e fr) ∧ arr[s.base]? = some (.int .i64 n) ∧ s.base + 6 ≤ arr.size
  | [], _, _, _, s, hs => by simp [segsOf] at hs
  | .k k :: l, cs, hl, h, s, hs => by
    obtain ⟨x, xs, rfl, _, h2⟩ := h
    simp only [segsOf] at hs
    simp only [List.all_cons, Bool.and_eq_true] at hl
    exact segsOf_six hf l xs hl.2 h2 s hs
  | .sl b ks :: l, cs, hl, h, s, hs => by
    obtain ⟨x, xs, rfl, h1, h2⟩ := h
    simp only [List.all_cons, Bool.and_eq_true] at hl
    simp only [segsOf, List.mem_cons] at hs
    rcases hs with rfl | hs
    · intro hR
      have hl1 := hl.1
      simp only [ckSix, Bool.and_eq_true, beq_iff_eq] at hl1
      obtain ⟨hh0, h6⟩ := hl1
      have h6 : 6 ≤ ks.length := by simpa using h6
      obtain ⟨ks', rfl⟩ : ∃ ks', ks = .int .i64 :: ks' := by
        cases ks with
        | nil => cases hh0
        | cons k0 ks' => simp only [List.head?_cons, Option.some.injEq] at hh0; subst hh0; exact ⟨ks', rfl⟩
      obtain ⟨len, R, a, cap, hx, hle, hcb, ha, hRR, hk, hcell⟩ := row_cells (by simp) h1 hf
      have hc : 0 < cap := by
        rw [hRR] at hR
        exact Nat.pos_of_mul_pos_right hR |> fun h => by
          by_cases h0 : cap = 0
          · subst h0; simp at hR
          · omega
      obtain ⟨arr, e, fr, hh, hsz, _, hget⟩ := hcell hc
      obtain ⟨y, ys, hy, hky, _⟩ := hk 0 hc
      obtain ⟨n, rfl, _⟩ := hky
      refine ⟨arr, e, fr, n, hh, ?_, ?_⟩
      · have := hget 0 0 hc (by simp)
        rw [hy] at this
        simpa using this
      · have := Nat.le_mul_of_pos_left (K.int IntKind.i64 :: ks').length hc
        omega
    · exact segsOf_six hf l xs hl.2 h2 s hs
theorem segsP_six {qs : List MemPlace} (hf : w.noneFrozen qs) : ∀ (ts : List TypeId) (pl : List (Bool × List CK)) (vs : List Value) (ds : List (DataW H)) (ps : List MemPlace),
    parsT P ts = some pl → DataW.TrodAll enc P w 0 (fun _ => true) true ts vs ds ps → (∀ p ∈ ps, p ∈ qs) → small (DataW.weightsEach P ts ds) → pl.all (fun g => g.2.all ckSix) = true →
    ∀ s ∈ segsP pl vs, 0 < s.R → ∃ arr e fr n, w.heap[s.r]? = some (.cells arr e fr) ∧ arr[s.base]? = some (.int .i64 n) ∧ s.base + 6 ≤ arr.size
  | [], pl, vs, ds, ps, hp, ht, _, _, _, s, hs => by
    simp only [parsT, Option.some.injEq] at hp; subst hp
    simp [segsP] at hs
  | t :: ts, pl, vs, ds, ps, hp, ht, hsub, hw, hl, s, hs => by
    simp only [parsT] at hp
    split at hp
    · rename_i g gl h1 h2
      simp only [Option.some.injEq] at hp; subst hp
      obtain ⟨g, l⟩ := g
      obtain ⟨v, vs', d, ds', p, q, rfl, rfl, rfl, ⟨fuel, hd⟩, hr⟩ := trodAll_cons ht
      have hck : ckT P 20 t = some l := by
        unfold parT at h1
        split at h1
        · split at h1
          · cases h1; assumption
          · cases h1
        · split at h1
          · cases h1; assumption
          · cases h1
        · cases h1
      have hcs := (trod_ck 20 t l hck fuel _ d p hd (weightsEach_get hw 0 t d rfl rfl)).sub (qs := qs) fun x hx => hsub x (List.mem_append.2 (.inl hx))
      have hw' : small (DataW.weightsEach P ts ds') := fun x hx => hw x (by simp only [DataW.weightsEach]; exact List.mem_append.2 (.inr hx))
      simp only [List.all_cons, Bool.and_eq_true] at hl
      simp only [segsP, List.mem_append] at hs
      rcases hs with hs | hs
      · exact segsOf_six hf l _ hl.1 hcs s hs
      · exact segsP_six hf ts gl vs' ds' q h2 hr (fun x hx => hsub x (List.mem_append.2 (.inr hx))) hw' hl.2 s hs
    · cases hp
end
/-- The step of a row that lists variables, and whose arguments hold slices of rows of six numbers or more: no variable is as long. -/
theorem law_lifted_shaped [Glob] {C : Checked} {os : Os} (started : os.Started) {H : Type} {enc : TypeId × Value → H} (own : ownKnob C.prog.godebug = none) (hl : laidOutB C.prog = true) {k : FuncId} {fn : Func} (hfn : C.prog.funcs[k]? = some fn) (noInit : C.prog.inits.idxOf? k = none)
    {S : ChangeSpec} {conds : List PathCond} {X : World → Array Value → Prop} (hX : ∀ (w w' : World) (args : Array Value), w.heap = w'.heap → X w args → X w' args)
    (hv : S.vars = []) (hS : ∀ ds : List (DataW H), ds.length = fn.params.size → S.fn H ds = { results := [.lit (.bool true)], args := ds })
    {tb : TypeId} (hres : fn.resultTypes = #[tb]) (hb : C.prog.underlying tb = some .bool) (hrd : fn.params.toList.all (fun t => C.prog.readableRec t && decide (t < C.prog.types.size)) = true)
    (witness : ∃ (w : World) (tape : Tape) (i : Input), w.os = os ∧ (w.forCall tape i).Shaped C.prog ∧ i.vars = [] ∧ Input.okWide C.prog (w.forCall tape i) .any w.heap.size k i ∧
      ((S.pre enc C.prog fn conds false (w.forCall tape i).memory i.args ∧ X (w.forCall tape i).memory i.args) ∧ sizedMet enc C.prog fn (OpenSpec.ofChange S) false (w.forCall tape i).memory i.args) ∧ ({} : Assume).holds C.prog (lone (Frame.enter C.prog k i.args .normal) [] (w.forCall tape i)))
    {s : Spec} (hs : SpecOK C.prog k s) {pl : List (Bool × List CK)} (hpl : parsT C.prog fn.params.toList = some pl) (hone : Nat.ble (countSl pl) 1 = true) (h64 : pl.all (fun g => g.2.all ckSix) = true)
    (fits : AllP pl 0 fun as bs => ∃ u n, (s as bs).den = some ⟨.bool true, u, n⟩ ∧ u.all Option.isNone = true)
    (hglob : ∀ (W : World) (args : Array Value), W.ShapedOpen C.prog → X W args → Glob.N ≤ W.heap.size ∧ Glob.G fun i => W.heap[i]?)
    (hkind : ∀ (W : World) (args : Array Value), W.ShapedOpen C.prog → X W args → ∀ r, r < Glob.N → ∀ arr e fr, W.heap[r]? = some (.cells arr e fr) → 6 ≤ arr.size → ∀ (i : Nat) n, arr[i]? ≠ some (.int .i64 n)) :
    ReturnsInHanded {} C os k .any (fun w args => (S.pre enc C.prog fn conds false w args ∧ X w args) ∧ sizedMet enc C.prog fn (OpenSpec.ofChange S) false w args) (S.post enc C.prog fn false true false false) := by
  refine returnsInHanded_of_calls own started noInit witness ?_
  intro w tape i _ hsh _ hok hpre hholds
  obtain ⟨_, _, _, fn', hfn', _, _, _, _, hval⟩ := hok
  have e : fn' = fn := Option.some.inj (hfn'.symm.trans hfn)
  subst e
  obtain ⟨⟨⟨ds, gs, before, hw, hc⟩, hx⟩, hz⟩ := hpre
  have hW := DataW.Whole.of_heap (w' := w.forCall tape i) (by rfl) hw
  have hx := hX _ (w.forCall tape i) _ (by rfl) hx
  have hsz : (DataW.weightsEach C.prog (fn'.params.toList ++ S.plain.varTypes C.prog) (ds ++ gs)).all (· ≤ reachBytes) = true := hz.weights hw
  have hgl := hglob _ _ hsh hx
  refine (law_contract (base := w.heap.size) hl hv hS hres hb hrd hs hpl hone fits (w.forCall tape i) i.args ds gs before hval hW hsz hgl.1 hgl.2 ?_).mono fun e W' ⟨v, he, hp⟩ => ?_
  · intro sg hsg hR
    obtain ⟨p, q, hA, hV, rfl, hfz, hnd⟩ := hW
    rw [hv] at hV
    obtain ⟨rfl, rfl⟩ := trodVars_none hV
    have hsm : small (DataW.weightsEach C.prog fn'.params.toList ds) := by
      intro n hn
      have hvt : S.plain.varTypes C.prog = [] := by
        show S.vars.filterMap _ = []
        rw [hv]; rfl
      rw [hvt] at hsz
      simp only [List.append_nil] at hsz
      have := List.all_eq_true.1 hsz n hn
      simpa using this
    obtain ⟨arr, e, fr, n, hh, ha, h6⟩ := segsP_six hfz fn'.params.toList pl i.args.toList ds p hpl hA (fun x hx => List.mem_append.2 (.inl hx)) hsm h64 sg hsg hR
    by_cases hc : Glob.N ≤ sg.r
    · exact hc
    · exact absurd ha (hkind _ _ hsh hx sg.r (by omega) arr e fr hh (by omega) _ n)
  · subst he
    exact ChangeSpec.post_blind hp
end Go.Rx

namespace Go.Rx

def pI : List V → Option (Int × List V)
  | .int .i64 n :: r => some (n, r)
  | _ => none
def pU : List V → Option (Int × List V)
  | .int .u8 n :: r => some (n, r)
  | _ => none
def pB : List V → Option (Bool × List V)
  | .bool n :: r => some (n, r)
  | _ => none
theorem pI_eq {l r : List V} {n : Int} (h : pI l = some (n, r)) : l = [V.int .i64 n] ++ r := by
  unfold pI at h; split at h
  · simp only [Option.some.injEq, Prod.mk.injEq] at h; obtain ⟨rfl, rfl⟩ := h; rfl
  · cases h
theorem pU_eq {l r : List V} {n : Int} (h : pU l = some (n, r)) : l = [V.int .u8 n] ++ r := by
  unfold pU at h; split at h
  · simp only [Option.some.injEq, Prod.mk.injEq] at h; obtain ⟨rfl, rfl⟩ := h; rfl
  · cases h
theorem pB_eq {l r : List V} {n : Bool} (h : pB l = some (n, r)) : l = [V.bool n] ++ r := by
  unfold pB at h; split at h
  · simp only [Option.some.injEq, Prod.mk.injEq] at h; obtain ⟨rfl, rfl⟩ := h; rfl
  · cases h

structure Ck where
  b0 : Int
  b1 : Int
  b2 : Int
  b3 : Int
  b4 : Int
  b5 : Int
  b6 : Int
  b7 : Int
  deriving DecidableEq, Inhabited
def Ck.vs (x : Ck) : List V := [V.int .u8 (x.b0)] ++ ([V.int .u8 (x.b1)] ++ ([V.int .u8 (x.b2)] ++ ([V.int .u8 (x.b3)] ++ ([V.int .u8 (x.b4)] ++ ([V.int .u8 (x.b5)] ++ ([V.int .u8 (x.b6)] ++ ([V.int .u8 (x.b7)])))))))
def Ck.v (x : Ck) : V := .agg x.vs
def Ck.zero : Ck := ⟨0, 0, 0, 0, 0, 0, 0, 0⟩
def Ck.p (l0 : List V) : Option (Ck × List V) :=
  match pU l0 with
  | none => none
  | some (a0, l1) =>
    match pU l1 with
    | none => none
    | some (a1, l2) =>
      match pU l2 with
      | none => none
      | some (a2, l3) =>
        match pU l3 with
        | none => none
        | some (a3, l4) =>
          match pU l4 with
          | none => none
          | some (a4, l5) =>
            match pU l5 with
            | none => none
            | some (a5, l6) =>
              match pU l6 with
              | none => none
              | some (a6, l7) =>
                match pU l7 with
                | none => none
                | some (a7, l8) =>
                  some (⟨a0, a1, a2, a3, a4, a5, a6, a7⟩, l8)
theorem Ck.p_eq {l0 r : List V} {x : Ck} (h : Ck.p l0 = some (x, r)) : l0 = x.vs ++ r := by
  unfold Ck.p at h
  split at h
  · cases h
  rename_i a0 l1 h0
  split at h
  · cases h
  rename_i a1 l2 h1
  split at h
  · cases h
  rename_i a2 l3 h2
  split at h
  · cases h
  rename_i a3 l4 h3
  split at h
  · cases h
  rename_i a4 l5 h4
  split at h
  · cases h
  rename_i a5 l6 h5
  split at h
  · cases h
  rename_i a6 l7 h6
  split at h
  · cases h
  rename_i a7 l8 h7
  simp only [Option.some.injEq, Prod.mk.injEq] at h
  obtain ⟨rfl, rfl⟩ := h
  rw [pU_eq h0, pU_eq h1, pU_eq h2, pU_eq h3, pU_eq h4, pU_eq h5, pU_eq h6, pU_eq h7]
  simp only [Ck.vs, List.append_assoc]
def Ck.of : V → Option Ck
  | .agg l => match Ck.p l with
    | some (x, []) => some x
    | _ => none
  | _ => none
theorem Ck.of_eq {v : V} {x : Ck} (h : Ck.of v = some x) : v = x.v := by
  unfold Ck.of at h; split at h
  · split at h
    · rename_i h1; simp only [Option.some.injEq] at h; subst h; rw [Ck.p_eq h1, List.append_nil]; rfl
    · cases h
  · cases h
def Ck.eqB (x y : Ck) : Bool := (x.b0 == y.b0) && ((x.b1 == y.b1) && ((x.b2 == y.b2) && ((x.b3 == y.b3) && ((x.b4 == y.b4) && ((x.b5 == y.b5) && ((x.b6 == y.b6) && ((x.b7 == y.b7) && true)))))))
theorem Ck.eqB_iff {x y : Ck} : Ck.eqB x y = true ↔ x = y := by
  cases x; cases y
  simp only [Ck.eqB, Bool.and_eq_true, beq_iff_eq, Bool.and_true, and_true, Ck.mk.injEq]
theorem Ck.eqB_eq (x y : Ck) : Ck.eqB x y = decide (x = y) := by
  rw [Bool.eq_iff_iff, Ck.eqB_iff, decide_eq_true_eq]
theorem Ck.eqB_self (x : Ck) : Ck.eqB x x = true := Ck.eqB_iff.2 rfl

structure Prt where
  c : Ck
  n : Int
  deriving DecidableEq, Inhabited
def Prt.vs (x : Prt) : List V := (x.c).vs ++ ([V.int .i64 (x.n)])
def Prt.v (x : Prt) : V := .agg x.vs
def Prt.zero : Prt := ⟨Ck.zero, 0⟩
def Prt.p (l0 : List V) : Option (Prt × List V) :=
  match Ck.p l0 with
  | none => none
  | some (a0, l1) =>
    match pI l1 with
    | none => none
    | some (a1, l2) =>
      some (⟨a0, a1⟩, l2)
theorem Prt.p_eq {l0 r : List V} {x : Prt} (h : Prt.p l0 = some (x, r)) : l0 = x.vs ++ r := by
  unfold Prt.p at h
  split at h
  · cases h
  rename_i a0 l1 h0
  split at h
  · cases h
  rename_i a1 l2 h1
  simp only [Option.some.injEq, Prod.mk.injEq] at h
  obtain ⟨rfl, rfl⟩ := h
  rw [Ck.p_eq h0, pI_eq h1]
  simp only [Prt.vs, List.append_assoc]
def Prt.of : V → Option Prt
  | .agg l => match Prt.p l with
    | some (x, []) => some x
    | _ => none
  | _ => none
theorem Prt.of_eq {v : V} {x : Prt} (h : Prt.of v = some x) : v = x.v := by
  unfold Prt.of at h; split at h
  · split at h
    · rename_i h1; simp only [Option.some.injEq] at h; subst h; rw [Prt.p_eq h1, List.append_nil]; rfl
    · cases h
  · cases h
def Prt.eqB (x y : Prt) : Bool := Ck.eqB x.c y.c && ((x.n == y.n) && true)
theorem Prt.eqB_iff {x y : Prt} : Prt.eqB x y = true ↔ x = y := by
  cases x; cases y
  simp only [Prt.eqB, Bool.and_eq_true, beq_iff_eq, Bool.and_true, and_true, Prt.mk.injEq, Ck.eqB_iff]
theorem Prt.eqB_eq (x y : Prt) : Prt.eqB x y = decide (x = y) := by
  rw [Bool.eq_iff_iff, Prt.eqB_iff, decide_eq_true_eq]
theorem Prt.eqB_self (x : Prt) : Prt.eqB x x = true := Prt.eqB_iff.2 rfl

structure Qua where
  cl : Int
  ac : Int
  va : Int
  deriving DecidableEq, Inhabited
def Qua.vs (x : Qua) : List V := [V.int .i64 (x.cl)] ++ ([V.int .i64 (x.ac)] ++ ([V.int .i64 (x.va)]))
def Qua.v (x : Qua) : V := .agg x.vs
def Qua.zero : Qua := ⟨0, 0, 0⟩
def Qua.p (l0 : List V) : Option (Qua × List V) :=
  match pI l0 with
  | none => none
  | some (a0, l1) =>
    match pI l1 with
    | none => none
    | some (a1, l2) =>
      match pI l2 with
      | none => none
      | some (a2, l3) =>
        some (⟨a0, a1, a2⟩, l3)
theorem Qua.p_eq {l0 r : List V} {x : Qua} (h : Qua.p l0 = some (x, r)) : l0 = x.vs ++ r := by
  unfold Qua.p at h
  split at h
  · cases h
  rename_i a0 l1 h0
  split at h
  · cases h
  rename_i a1 l2 h1
  split at h
  · cases h
  rename_i a2 l3 h2
  simp only [Option.some.injEq, Prod.mk.injEq] at h
  obtain ⟨rfl, rfl⟩ := h
  rw [pI_eq h0, pI_eq h1, pI_eq h2]
  simp only [Qua.vs, List.append_assoc]
def Qua.of : V → Option Qua
  | .agg l => match Qua.p l with
    | some (x, []) => some x
    | _ => none
  | _ => none
theorem Qua.of_eq {v : V} {x : Qua} (h : Qua.of v = some x) : v = x.v := by
  unfold Qua.of at h; split at h
  · split at h
    · rename_i h1; simp only [Option.some.injEq] at h; subst h; rw [Qua.p_eq h1, List.append_nil]; rfl
    · cases h
  · cases h
def Qua.eqB (x y : Qua) : Bool := (x.cl == y.cl) && ((x.ac == y.ac) && ((x.va == y.va) && true))
theorem Qua.eqB_iff {x y : Qua} : Qua.eqB x y = true ↔ x = y := by
  cases x; cases y
  simp only [Qua.eqB, Bool.and_eq_true, beq_iff_eq, Bool.and_true, and_true, Qua.mk.injEq]
theorem Qua.eqB_eq (x y : Qua) : Qua.eqB x y = decide (x = y) := by
  rw [Bool.eq_iff_iff, Qua.eqB_iff, decide_eq_true_eq]
theorem Qua.eqB_self (x : Qua) : Qua.eqB x x = true := Qua.eqB_iff.2 rfl

structure Ste where
  p1 : Int
  p2 : Int
  q : Qua
  g : Ck
  st : Int
  snd : Prt
  rcv : Prt
  deriving DecidableEq, Inhabited
def Ste.vs (x : Ste) : List V := [V.int .i64 (x.p1)] ++ ([V.int .i64 (x.p2)] ++ ((x.q).vs ++ ((x.g).vs ++ ([V.int .i64 (x.st)] ++ ((x.snd).vs ++ ((x.rcv).vs))))))
def Ste.v (x : Ste) : V := .agg x.vs
def Ste.zero : Ste := ⟨0, 0, Qua.zero, Ck.zero, 0, Prt.zero, Prt.zero⟩
def Ste.p (l0 : List V) : Option (Ste × List V) :=
  match pI l0 with
  | none => none
  | some (a0, l1) =>
    match pI l1 with
    | none => none
    | some (a1, l2) =>
      match Qua.p l2 with
      | none => none
      | some (a2, l3) =>
        match Ck.p l3 with
        | none => none
        | some (a3, l4) =>
          match pI l4 with
          | none => none
          | some (a4, l5) =>
            match Prt.p l5 with
            | none => none
            | some (a5, l6) =>
              match Prt.p l6 with
              | none => none
              | some (a6, l7) =>
                some (⟨a0, a1, a2, a3, a4, a5, a6⟩, l7)
theorem Ste.p_eq {l0 r : List V} {x : Ste} (h : Ste.p l0 = some (x, r)) : l0 = x.vs ++ r := by
  unfold Ste.p at h
  split at h
  · cases h
  rename_i a0 l1 h0
  split at h
  · cases h
  rename_i a1 l2 h1
  split at h
  · cases h
  rename_i a2 l3 h2
  split at h
  · cases h
  rename_i a3 l4 h3
  split at h
  · cases h
  rename_i a4 l5 h4
  split at h
  · cases h
  rename_i a5 l6 h5
  split at h
  · cases h
  rename_i a6 l7 h6
  simp only [Option.some.injEq, Prod.mk.injEq] at h
  obtain ⟨rfl, rfl⟩ := h
  rw [pI_eq h0, pI_eq h1, Qua.p_eq h2, Ck.p_eq h3, pI_eq h4, Prt.p_eq h5, Prt.p_eq h6]
  simp only [Ste.vs, List.append_assoc]
def Ste.of : V → Option Ste
  | .agg l => match Ste.p l with
    | some (x, []) => some x
    | _ => none
  | _ => none
theorem Ste.of_eq {v : V} {x : Ste} (h : Ste.of v = some x) : v = x.v := by
  unfold Ste.of at h; split at h
  · split at h
    · rename_i h1; simp only [Option.some.injEq] at h; subst h; rw [Ste.p_eq h1, List.append_nil]; rfl
    · cases h
  · cases h
def Ste.eqB (x y : Ste) : Bool := (x.p1 == y.p1) && ((x.p2 == y.p2) && (Qua.eqB x.q y.q && (Ck.eqB x.g y.g && ((x.st == y.st) && (Prt.eqB x.snd y.snd && (Prt.eqB x.rcv y.rcv && true))))))
theorem Ste.eqB_iff {x y : Ste} : Ste.eqB x y = true ↔ x = y := by
  cases x; cases y
  simp only [Ste.eqB, Bool.and_eq_true, beq_iff_eq, Bool.and_true, and_true, Ste.mk.injEq, Ck.eqB_iff, Prt.eqB_iff, Qua.eqB_iff]
theorem Ste.eqB_eq (x y : Ste) : Ste.eqB x y = decide (x = y) := by
  rw [Bool.eq_iff_iff, Ste.eqB_iff, decide_eq_true_eq]
theorem Ste.eqB_self (x : Ste) : Ste.eqB x x = true := Ste.eqB_iff.2 rfl

structure Hd where
  ty : Int
  dom : Int
  fl : Int
  co : Int
  src : Prt
  se : Int
  lo : Int
  deriving DecidableEq, Inhabited
def Hd.vs (x : Hd) : List V := [V.int .i64 (x.ty)] ++ ([V.int .i64 (x.dom)] ++ ([V.int .i64 (x.fl)] ++ ([V.int .i64 (x.co)] ++ ((x.src).vs ++ ([V.int .i64 (x.se)] ++ ([V.int .i64 (x.lo)]))))))
def Hd.v (x : Hd) : V := .agg x.vs
def Hd.zero : Hd := ⟨0, 0, 0, 0, Prt.zero, 0, 0⟩
def Hd.p (l0 : List V) : Option (Hd × List V) :=
  match pI l0 with
  | none => none
  | some (a0, l1) =>
    match pI l1 with
    | none => none
    | some (a1, l2) =>
      match pI l2 with
      | none => none
      | some (a2, l3) =>
        match pI l3 with
        | none => none
        | some (a3, l4) =>
          match Prt.p l4 with
          | none => none
          | some (a4, l5) =>
            match pI l5 with
            | none => none
            | some (a5, l6) =>
              match pI l6 with
              | none => none
              | some (a6, l7) =>
                some (⟨a0, a1, a2, a3, a4, a5, a6⟩, l7)
theorem Hd.p_eq {l0 r : List V} {x : Hd} (h : Hd.p l0 = some (x, r)) : l0 = x.vs ++ r := by
  unfold Hd.p at h
  split at h
  · cases h
  rename_i a0 l1 h0
  split at h
  · cases h
  rename_i a1 l2 h1
  split at h
  · cases h
  rename_i a2 l3 h2
  split at h
  · cases h
  rename_i a3 l4 h3
  split at h
  · cases h
  rename_i a4 l5 h4
  split at h
  · cases h
  rename_i a5 l6 h5
  split at h
  · cases h
  rename_i a6 l7 h6
  simp only [Option.some.injEq, Prod.mk.injEq] at h
  obtain ⟨rfl, rfl⟩ := h
  rw [pI_eq h0, pI_eq h1, pI_eq h2, pI_eq h3, Prt.p_eq h4, pI_eq h5, pI_eq h6]
  simp only [Hd.vs, List.append_assoc]
def Hd.of : V → Option Hd
  | .agg l => match Hd.p l with
    | some (x, []) => some x
    | _ => none
  | _ => none
theorem Hd.of_eq {v : V} {x : Hd} (h : Hd.of v = some x) : v = x.v := by
  unfold Hd.of at h; split at h
  · split at h
    · rename_i h1; simp only [Option.some.injEq] at h; subst h; rw [Hd.p_eq h1, List.append_nil]; rfl
    · cases h
  · cases h
def Hd.eqB (x y : Hd) : Bool := (x.ty == y.ty) && ((x.dom == y.dom) && ((x.fl == y.fl) && ((x.co == y.co) && (Prt.eqB x.src y.src && ((x.se == y.se) && ((x.lo == y.lo) && true))))))
theorem Hd.eqB_iff {x y : Hd} : Hd.eqB x y = true ↔ x = y := by
  cases x; cases y
  simp only [Hd.eqB, Bool.and_eq_true, beq_iff_eq, Bool.and_true, and_true, Hd.mk.injEq, Prt.eqB_iff]
theorem Hd.eqB_eq (x y : Hd) : Hd.eqB x y = decide (x = y) := by
  rw [Bool.eq_iff_iff, Hd.eqB_iff, decide_eq_true_eq]
theorem Hd.eqB_self (x : Hd) : Hd.eqB x x = true := Hd.eqB_iff.2 rfl

structure Stm where
  sec : Int
  ns : Int
  deriving DecidableEq, Inhabited
def Stm.vs (x : Stm) : List V := [V.int .i64 (x.sec)] ++ ([V.int .i64 (x.ns)])
def Stm.v (x : Stm) : V := .agg x.vs
def Stm.zero : Stm := ⟨0, 0⟩
def Stm.p (l0 : List V) : Option (Stm × List V) :=
  match pI l0 with
  | none => none
  | some (a0, l1) =>
    match pI l1 with
    | none => none
    | some (a1, l2) =>
      some (⟨a0, a1⟩, l2)
theorem Stm.p_eq {l0 r : List V} {x : Stm} (h : Stm.p l0 = some (x, r)) : l0 = x.vs ++ r := by
  unfold Stm.p at h
  split at h
  · cases h
  rename_i a0 l1 h0
  split at h
  · cases h
  rename_i a1 l2 h1
  simp only [Option.some.injEq, Prod.mk.injEq] at h
  obtain ⟨rfl, rfl⟩ := h
  rw [pI_eq h0, pI_eq h1]
  simp only [Stm.vs, List.append_assoc]
def Stm.of : V → Option Stm
  | .agg l => match Stm.p l with
    | some (x, []) => some x
    | _ => none
  | _ => none
theorem Stm.of_eq {v : V} {x : Stm} (h : Stm.of v = some x) : v = x.v := by
  unfold Stm.of at h; split at h
  · split at h
    · rename_i h1; simp only [Option.some.injEq] at h; subst h; rw [Stm.p_eq h1, List.append_nil]; rfl
    · cases h
  · cases h
def Stm.eqB (x y : Stm) : Bool := (x.sec == y.sec) && ((x.ns == y.ns) && true)
theorem Stm.eqB_iff {x y : Stm} : Stm.eqB x y = true ↔ x = y := by
  cases x; cases y
  simp only [Stm.eqB, Bool.and_eq_true, beq_iff_eq, Bool.and_true, and_true, Stm.mk.injEq]
theorem Stm.eqB_eq (x y : Stm) : Stm.eqB x y = decide (x = y) := by
  rw [Bool.eq_iff_iff, Stm.eqB_iff, decide_eq_true_eq]
theorem Stm.eqB_self (x : Stm) : Stm.eqB x x = true := Stm.eqB_iff.2 rfl

structure Msg where
  h : Hd
  t : Stm
  ask : Prt
  off : Int
  set : Ste
  src : Int
  deriving DecidableEq, Inhabited
def Msg.vs (x : Msg) : List V := (x.h).vs ++ ((x.t).vs ++ ((x.ask).vs ++ ([V.int .i64 (x.off)] ++ ((x.set).vs ++ ([V.int .i64 (x.src)])))))
def Msg.v (x : Msg) : V := .agg x.vs
def Msg.zero : Msg := ⟨Hd.zero, Stm.zero, Prt.zero, 0, Ste.zero, 0⟩
def Msg.p (l0 : List V) : Option (Msg × List V) :=
  match Hd.p l0 with
  | none => none
  | some (a0, l1) =>
    match Stm.p l1 with
    | none => none
    | some (a1, l2) =>
      match Prt.p l2 with
      | none => none
      | some (a2, l3) =>
        match pI l3 with
        | none => none
        | some (a3, l4) =>
          match Ste.p l4 with
          | none => none
          | some (a4, l5) =>
            match pI l5 with
            | none => none
            | some (a5, l6) =>
              some (⟨a0, a1, a2, a3, a4, a5⟩, l6)
theorem Msg.p_eq {l0 r : List V} {x : Msg} (h : Msg.p l0 = some (x, r)) : l0 = x.vs ++ r := by
  unfold Msg.p at h
  split at h
  · cases h
  rename_i a0 l1 h0
  split at h
  · cases h
  rename_i a1 l2 h1
  split at h
  · cases h
  rename_i a2 l3 h2
  split at h
  · cases h
  rename_i a3 l4 h3
  split at h
  · cases h
  rename_i a4 l5 h4
  split at h
  · cases h
  rename_i a5 l6 h5
  simp only [Option.some.injEq, Prod.mk.injEq] at h
  obtain ⟨rfl, rfl⟩ := h
  rw [Hd.p_eq h0, Stm.p_eq h1, Prt.p_eq h2, pI_eq h3, Ste.p_eq h4, pI_eq h5]
  simp only [Msg.vs, List.append_assoc]
def Msg.of : V → Option Msg
  | .agg l => match Msg.p l with
    | some (x, []) => some x
    | _ => none
  | _ => none
theorem Msg.of_eq {v : V} {x : Msg} (h : Msg.of v = some x) : v = x.v := by
  unfold Msg.of at h; split at h
  · split at h
    · rename_i h1; simp only [Option.some.injEq] at h; subst h; rw [Msg.p_eq h1, List.append_nil]; rfl
    · cases h
  · cases h
def Msg.eqB (x y : Msg) : Bool := Hd.eqB x.h y.h && (Stm.eqB x.t y.t && (Prt.eqB x.ask y.ask && ((x.off == y.off) && (Ste.eqB x.set y.set && ((x.src == y.src) && true)))))
theorem Msg.eqB_iff {x y : Msg} : Msg.eqB x y = true ↔ x = y := by
  cases x; cases y
  simp only [Msg.eqB, Bool.and_eq_true, beq_iff_eq, Bool.and_true, and_true, Msg.mk.injEq, Hd.eqB_iff, Prt.eqB_iff, Ste.eqB_iff, Stm.eqB_iff]
theorem Msg.eqB_eq (x y : Msg) : Msg.eqB x y = decide (x = y) := by
  rw [Bool.eq_iff_iff, Msg.eqB_iff, decide_eq_true_eq]
theorem Msg.eqB_self (x : Msg) : Msg.eqB x x = true := Msg.eqB_iff.2 rfl

structure Nte where
  off : Int
  l61 : Bool
  l59 : Bool
  va : Bool
  deriving DecidableEq, Inhabited
def Nte.vs (x : Nte) : List V := [V.int .i64 (x.off)] ++ ([V.bool (x.l61)] ++ ([V.bool (x.l59)] ++ ([V.bool (x.va)])))
def Nte.v (x : Nte) : V := .agg x.vs
def Nte.zero : Nte := ⟨0, false, false, false⟩
def Nte.p (l0 : List V) : Option (Nte × List V) :=
  match pI l0 with
  | none => none
  | some (a0, l1) =>
    match pB l1 with
    | none => none
    | some (a1, l2) =>
      match pB l2 with
      | none => none
      | some (a2, l3) =>
        match pB l3 with
        | none => none
        | some (a3, l4) =>
          some (⟨a0, a1, a2, a3⟩, l4)
theorem Nte.p_eq {l0 r : List V} {x : Nte} (h : Nte.p l0 = some (x, r)) : l0 = x.vs ++ r := by
  unfold Nte.p at h
  split at h
  · cases h
  rename_i a0 l1 h0
  split at h
  · cases h
  rename_i a1 l2 h1
  split at h
  · cases h
  rename_i a2 l3 h2
  split at h
  · cases h
  rename_i a3 l4 h3
  simp only [Option.some.injEq, Prod.mk.injEq] at h
  obtain ⟨rfl, rfl⟩ := h
  rw [pI_eq h0, pB_eq h1, pB_eq h2, pB_eq h3]
  simp only [Nte.vs, List.append_assoc]
def Nte.of : V → Option Nte
  | .agg l => match Nte.p l with
    | some (x, []) => some x
    | _ => none
  | _ => none
theorem Nte.of_eq {v : V} {x : Nte} (h : Nte.of v = some x) : v = x.v := by
  unfold Nte.of at h; split at h
  · split at h
    · rename_i h1; simp only [Option.some.injEq] at h; subst h; rw [Nte.p_eq h1, List.append_nil]; rfl
    · cases h
  · cases h
def Nte.eqB (x y : Nte) : Bool := (x.off == y.off) && ((x.l61 == y.l61) && ((x.l59 == y.l59) && ((x.va == y.va) && true)))
theorem Nte.eqB_iff {x y : Nte} : Nte.eqB x y = true ↔ x = y := by
  cases x; cases y
  simp only [Nte.eqB, Bool.and_eq_true, beq_iff_eq, Bool.and_true, and_true, Nte.mk.injEq]
theorem Nte.eqB_eq (x y : Nte) : Nte.eqB x y = decide (x = y) := by
  rw [Bool.eq_iff_iff, Nte.eqB_iff, decide_eq_true_eq]
theorem Nte.eqB_self (x : Nte) : Nte.eqB x x = true := Nte.eqB_iff.2 rfl

structure Sts where
  st : Int
  par : Prt
  g : Ste
  nt : Nte
  ptp : Bool
  tra : Bool
  fre : Bool
  src : Int
  deriving DecidableEq, Inhabited
def Sts.vs (x : Sts) : List V := [V.int .i64 (x.st)] ++ ((x.par).vs ++ ((x.g).vs ++ ((x.nt).vs ++ ([V.bool (x.ptp)] ++ ([V.bool (x.tra)] ++ ([V.bool (x.fre)] ++ ([V.int .i64 (x.src)])))))))
def Sts.v (x : Sts) : V := .agg x.vs
def Sts.zero : Sts := ⟨0, Prt.zero, Ste.zero, Nte.zero, false, false, false, 0⟩
def Sts.p (l0 : List V) : Option (Sts × List V) :=
  match pI l0 with
  | none => none
  | some (a0, l1) =>
    match Prt.p l1 with
    | none => none
    | some (a1, l2) =>
      match Ste.p l2 with
      | none => none
      | some (a2, l3) =>
        match Nte.p l3 with
        | none => none
        | some (a3, l4) =>
          match pB l4 with
          | none => none
          | some (a4, l5) =>
            match pB l5 with
            | none => none
            | some (a5, l6) =>
              match pB l6 with
              | none => none
              | some (a6, l7) =>
                match pI l7 with
                | none => none
                | some (a7, l8) =>
                  some (⟨a0, a1, a2, a3, a4, a5, a6, a7⟩, l8)
theorem Sts.p_eq {l0 r : List V} {x : Sts} (h : Sts.p l0 = some (x, r)) : l0 = x.vs ++ r := by
  unfold Sts.p at h
  split at h
  · cases h
  rename_i a0 l1 h0
  split at h
  · cases h
  rename_i a1 l2 h1
  split at h
  · cases h
  rename_i a2 l3 h2
  split at h
  · cases h
  rename_i a3 l4 h3
  split at h
  · cases h
  rename_i a4 l5 h4
  split at h
  · cases h
  rename_i a5 l6 h5
  split at h
  · cases h
  rename_i a6 l7 h6
  split at h
  · cases h
  rename_i a7 l8 h7
  simp only [Option.some.injEq, Prod.mk.injEq] at h
  obtain ⟨rfl, rfl⟩ := h
  rw [pI_eq h0, Prt.p_eq h1, Ste.p_eq h2, Nte.p_eq h3, pB_eq h4, pB_eq h5, pB_eq h6, pI_eq h7]
  simp only [Sts.vs, List.append_assoc]
def Sts.of : V → Option Sts
  | .agg l => match Sts.p l with
    | some (x, []) => some x
    | _ => none
  | _ => none
theorem Sts.of_eq {v : V} {x : Sts} (h : Sts.of v = some x) : v = x.v := by
  unfold Sts.of at h; split at h
  · split at h
    · rename_i h1; simp only [Option.some.injEq] at h; subst h; rw [Sts.p_eq h1, List.append_nil]; rfl
    · cases h
  · cases h
def Sts.eqB (x y : Sts) : Bool := (x.st == y.st) && (Prt.eqB x.par y.par && (Ste.eqB x.g y.g && (Nte.eqB x.nt y.nt && ((x.ptp == y.ptp) && ((x.tra == y.tra) && ((x.fre == y.fre) && ((x.src == y.src) && true)))))))
theorem Sts.eqB_iff {x y : Sts} : Sts.eqB x y = true ↔ x = y := by
  cases x; cases y
  simp only [Sts.eqB, Bool.and_eq_true, beq_iff_eq, Bool.and_true, and_true, Sts.mk.injEq, Nte.eqB_iff, Prt.eqB_iff, Ste.eqB_iff]
theorem Sts.eqB_eq (x y : Sts) : Sts.eqB x y = decide (x = y) := by
  rw [Bool.eq_iff_iff, Sts.eqB_iff, decide_eq_true_eq]
theorem Sts.eqB_self (x : Sts) : Sts.eqB x x = true := Sts.eqB_iff.2 rfl

structure Pth where
  mn : Int
  mx : Int
  gr : Int
  deriving DecidableEq, Inhabited
def Pth.vs (x : Pth) : List V := [V.int .i64 (x.mn)] ++ ([V.int .i64 (x.mx)] ++ ([V.int .i64 (x.gr)]))
def Pth.v (x : Pth) : V := .agg x.vs
def Pth.zero : Pth := ⟨0, 0, 0⟩
def Pth.p (l0 : List V) : Option (Pth × List V) :=
  match pI l0 with
  | none => none
  | some (a0, l1) =>
    match pI l1 with
    | none => none
    | some (a1, l2) =>
      match pI l2 with
      | none => none
      | some (a2, l3) =>
        some (⟨a0, a1, a2⟩, l3)
theorem Pth.p_eq {l0 r : List V} {x : Pth} (h : Pth.p l0 = some (x, r)) : l0 = x.vs ++ r := by
  unfold Pth.p at h
  split at h
  · cases h
  rename_i a0 l1 h0
  split at h
  · cases h
  rename_i a1 l2 h1
  split at h
  · cases h
  rename_i a2 l3 h2
  simp only [Option.some.injEq, Prod.mk.injEq] at h
  obtain ⟨rfl, rfl⟩ := h
  rw [pI_eq h0, pI_eq h1, pI_eq h2]
  simp only [Pth.vs, List.append_assoc]
def Pth.of : V → Option Pth
  | .agg l => match Pth.p l with
    | some (x, []) => some x
    | _ => none
  | _ => none
theorem Pth.of_eq {v : V} {x : Pth} (h : Pth.of v = some x) : v = x.v := by
  unfold Pth.of at h; split at h
  · split at h
    · rename_i h1; simp only [Option.some.injEq] at h; subst h; rw [Pth.p_eq h1, List.append_nil]; rfl
    · cases h
  · cases h
def Pth.eqB (x y : Pth) : Bool := (x.mn == y.mn) && ((x.mx == y.mx) && ((x.gr == y.gr) && true))
theorem Pth.eqB_iff {x y : Pth} : Pth.eqB x y = true ↔ x = y := by
  cases x; cases y
  simp only [Pth.eqB, Bool.and_eq_true, beq_iff_eq, Bool.and_true, and_true, Pth.mk.injEq]
theorem Pth.eqB_eq (x y : Pth) : Pth.eqB x y = decide (x = y) := by
  rw [Bool.eq_iff_iff, Pth.eqB_iff, decide_eq_true_eq]
theorem Pth.eqB_self (x : Pth) : Pth.eqB x x = true := Pth.eqB_iff.2 rfl

structure Pot where
  ev : Int
  of_ : Int
  ask : Int
  pa : Pth
  deriving DecidableEq, Inhabited
def Pot.vs (x : Pot) : List V := [V.int .i64 (x.ev)] ++ ([V.int .i64 (x.of_)] ++ ([V.int .i64 (x.ask)] ++ ((x.pa).vs)))
def Pot.v (x : Pot) : V := .agg x.vs
def Pot.zero : Pot := ⟨0, 0, 0, Pth.zero⟩
def Pot.p (l0 : List V) : Option (Pot × List V) :=
  match pI l0 with
  | none => none
  | some (a0, l1) =>
    match pI l1 with
    | none => none
    | some (a1, l2) =>
      match pI l2 with
      | none => none
      | some (a2, l3) =>
        match Pth.p l3 with
        | none => none
        | some (a3, l4) =>
          some (⟨a0, a1, a2, a3⟩, l4)
theorem Pot.p_eq {l0 r : List V} {x : Pot} (h : Pot.p l0 = some (x, r)) : l0 = x.vs ++ r := by
  unfold Pot.p at h
  split at h
  · cases h
  rename_i a0 l1 h0
  split at h
  · cases h
  rename_i a1 l2 h1
  split at h
  · cases h
  rename_i a2 l3 h2
  split at h
  · cases h
  rename_i a3 l4 h3
  simp only [Option.some.injEq, Prod.mk.injEq] at h
  obtain ⟨rfl, rfl⟩ := h
  rw [pI_eq h0, pI_eq h1, pI_eq h2, Pth.p_eq h3]
  simp only [Pot.vs, List.append_assoc]
def Pot.of : V → Option Pot
  | .agg l => match Pot.p l with
    | some (x, []) => some x
    | _ => none
  | _ => none
theorem Pot.of_eq {v : V} {x : Pot} (h : Pot.of v = some x) : v = x.v := by
  unfold Pot.of at h; split at h
  · split at h
    · rename_i h1; simp only [Option.some.injEq] at h; subst h; rw [Pot.p_eq h1, List.append_nil]; rfl
    · cases h
  · cases h
def Pot.eqB (x y : Pot) : Bool := (x.ev == y.ev) && ((x.of_ == y.of_) && ((x.ask == y.ask) && (Pth.eqB x.pa y.pa && true)))
theorem Pot.eqB_iff {x y : Pot} : Pot.eqB x y = true ↔ x = y := by
  cases x; cases y
  simp only [Pot.eqB, Bool.and_eq_true, beq_iff_eq, Bool.and_true, and_true, Pot.mk.injEq, Pth.eqB_iff]
theorem Pot.eqB_eq (x y : Pot) : Pot.eqB x y = decide (x = y) := by
  rw [Bool.eq_iff_iff, Pot.eqB_iff, decide_eq_true_eq]
theorem Pot.eqB_self (x : Pot) : Pot.eqB x x = true := Pot.eqB_iff.2 rfl

structure Cfh where
  id : Ck
  dom : Int
  p1 : Int
  p2 : Int
  q : Qua
  ppb : Int
  sl : Bool
  deriving DecidableEq, Inhabited
def Cfh.vs (x : Cfh) : List V := (x.id).vs ++ ([V.int .i64 (x.dom)] ++ ([V.int .i64 (x.p1)] ++ ([V.int .i64 (x.p2)] ++ ((x.q).vs ++ ([V.int .i64 (x.ppb)] ++ ([V.bool (x.sl)]))))))
def Cfh.v (x : Cfh) : V := .agg x.vs
def Cfh.zero : Cfh := ⟨Ck.zero, 0, 0, 0, Qua.zero, 0, false⟩
def Cfh.p (l0 : List V) : Option (Cfh × List V) :=
  match Ck.p l0 with
  | none => none
  | some (a0, l1) =>
    match pI l1 with
    | none => none
    | some (a1, l2) =>
      match pI l2 with
      | none => none
      | some (a2, l3) =>
        match pI l3 with
        | none => none
        | some (a3, l4) =>
          match Qua.p l4 with
          | none => none
          | some (a4, l5) =>
            match pI l5 with
            | none => none
            | some (a5, l6) =>
              match pB l6 with
              | none => none
              | some (a6, l7) =>
                some (⟨a0, a1, a2, a3, a4, a5, a6⟩, l7)
theorem Cfh.p_eq {l0 r : List V} {x : Cfh} (h : Cfh.p l0 = some (x, r)) : l0 = x.vs ++ r := by
  unfold Cfh.p at h
  split at h
  · cases h
  rename_i a0 l1 h0
  split at h
  · cases h
  rename_i a1 l2 h1
  split at h
  · cases h
  rename_i a2 l3 h2
  split at h
  · cases h
  rename_i a3 l4 h3
  split at h
  · cases h
  rename_i a4 l5 h4
  split at h
  · cases h
  rename_i a5 l6 h5
  split at h
  · cases h
  rename_i a6 l7 h6
  simp only [Option.some.injEq, Prod.mk.injEq] at h
  obtain ⟨rfl, rfl⟩ := h
  rw [Ck.p_eq h0, pI_eq h1, pI_eq h2, pI_eq h3, Qua.p_eq h4, pI_eq h5, pB_eq h6]
  simp only [Cfh.vs, List.append_assoc]
def Cfh.of : V → Option Cfh
  | .agg l => match Cfh.p l with
    | some (x, []) => some x
    | _ => none
  | _ => none
theorem Cfh.of_eq {v : V} {x : Cfh} (h : Cfh.of v = some x) : v = x.v := by
  unfold Cfh.of at h; split at h
  · split at h
    · rename_i h1; simp only [Option.some.injEq] at h; subst h; rw [Cfh.p_eq h1, List.append_nil]; rfl
    · cases h
  · cases h
def Cfh.eqB (x y : Cfh) : Bool := Ck.eqB x.id y.id && ((x.dom == y.dom) && ((x.p1 == y.p1) && ((x.p2 == y.p2) && (Qua.eqB x.q y.q && ((x.ppb == y.ppb) && ((x.sl == y.sl) && true))))))
theorem Cfh.eqB_iff {x y : Cfh} : Cfh.eqB x y = true ↔ x = y := by
  cases x; cases y
  simp only [Cfh.eqB, Bool.and_eq_true, beq_iff_eq, Bool.and_true, and_true, Cfh.mk.injEq, Ck.eqB_iff, Qua.eqB_iff]
theorem Cfh.eqB_eq (x y : Cfh) : Cfh.eqB x y = decide (x = y) := by
  rw [Bool.eq_iff_iff, Cfh.eqB_iff, decide_eq_true_eq]
theorem Cfh.eqB_self (x : Cfh) : Cfh.eqB x x = true := Cfh.eqB_iff.2 rfl

structure Lab where
  y : Int
  mo : Int
  d : Int
  h : Int
  mi : Int
  s : Int
  deriving DecidableEq, Inhabited
def Lab.vs (x : Lab) : List V := [V.int .i64 (x.y)] ++ ([V.int .i64 (x.mo)] ++ ([V.int .i64 (x.d)] ++ ([V.int .i64 (x.h)] ++ ([V.int .i64 (x.mi)] ++ ([V.int .i64 (x.s)])))))
def Lab.v (x : Lab) : V := .agg x.vs
def Lab.zero : Lab := ⟨0, 0, 0, 0, 0, 0⟩
def Lab.p (l0 : List V) : Option (Lab × List V) :=
  match pI l0 with
  | none => none
  | some (a0, l1) =>
    match pI l1 with
    | none => none
    | some (a1, l2) =>
      match pI l2 with
      | none => none
      | some (a2, l3) =>
        match pI l3 with
        | none => none
        | some (a3, l4) =>
          match pI l4 with
          | none => none
          | some (a4, l5) =>
            match pI l5 with
            | none => none
            | some (a5, l6) =>
              some (⟨a0, a1, a2, a3, a4, a5⟩, l6)
theorem Lab.p_eq {l0 r : List V} {x : Lab} (h : Lab.p l0 = some (x, r)) : l0 = x.vs ++ r := by
  unfold Lab.p at h
  split at h
  · cases h
  rename_i a0 l1 h0
  split at h
  · cases h
  rename_i a1 l2 h1
  split at h
  · cases h
  rename_i a2 l3 h2
  split at h
  · cases h
  rename_i a3 l4 h3
  split at h
  · cases h
  rename_i a4 l5 h4
  split at h
  · cases h
  rename_i a5 l6 h5
  simp only [Option.some.injEq, Prod.mk.injEq] at h
  obtain ⟨rfl, rfl⟩ := h
  rw [pI_eq h0, pI_eq h1, pI_eq h2, pI_eq h3, pI_eq h4, pI_eq h5]
  simp only [Lab.vs, List.append_assoc]
def Lab.of : V → Option Lab
  | .agg l => match Lab.p l with
    | some (x, []) => some x
    | _ => none
  | _ => none
theorem Lab.of_eq {v : V} {x : Lab} (h : Lab.of v = some x) : v = x.v := by
  unfold Lab.of at h; split at h
  · split at h
    · rename_i h1; simp only [Option.some.injEq] at h; subst h; rw [Lab.p_eq h1, List.append_nil]; rfl
    · cases h
  · cases h
def Lab.eqB (x y : Lab) : Bool := (x.y == y.y) && ((x.mo == y.mo) && ((x.d == y.d) && ((x.h == y.h) && ((x.mi == y.mi) && ((x.s == y.s) && true)))))
theorem Lab.eqB_iff {x y : Lab} : Lab.eqB x y = true ↔ x = y := by
  cases x; cases y
  simp only [Lab.eqB, Bool.and_eq_true, beq_iff_eq, Bool.and_true, and_true, Lab.mk.injEq]
theorem Lab.eqB_eq (x y : Lab) : Lab.eqB x y = decide (x = y) := by
  rw [Bool.eq_iff_iff, Lab.eqB_iff, decide_eq_true_eq]
theorem Lab.eqB_self (x : Lab) : Lab.eqB x x = true := Lab.eqB_iff.2 rfl

/-- A specification that is told of known truth values as of others. -/
def Spec.N (s : Spec) : Spec := fun a b => s (nrm.nrms a) (b.map nrmB)
theorem SpecOK.N [Glob] {P : Program} {k : FuncId} {s : Spec} (h : SpecOK P k s) : SpecOK P k s.N := by
  refine ⟨?_, h.good⟩
  intro args bs r hr ρ xs w hx hbs
  have hb : BsRel ρ (bs.map nrmB) w := by
    refine ⟨fun b bl hbl => ?_, fun b c s t hb hc lk => hbs.2.1 b c s t hb hc (by rw [List.getElem?_map, List.getElem?_map, look_nrm, look_nrm] at lk; exact lk), fun b hb => hbs.2.2.1 b (by simpa using hb), hbs.2.2.2⟩
    rw [List.getElem?_map] at hbl
    obtain ⟨bl', h1, rfl⟩ := Option.map_eq_some_iff.1 hbl
    obtain ⟨s, h2, h3⟩ := hbs.1 b bl' h1
    exact ⟨s, h2, (nrmB_rel bl').2 h3⟩
  have := h.correct _ _ r hr ρ xs w ((nrms_rel args xs.toList).2 hx) hb
  simpa using this

/-- A function gone through where it is called. -/
theorem inl_ok [Glob] {P : Program} {l : List (Nat × Spec)} (hΓ : GammaOK P l) (hm : P.follows .mixedOrders = true) {Λ : Nat → Option LSpec} {k : FuncId} {fn : Func} (hfn : P.funcs[k]? = some fn) (hg : goodFn fn = true)
    (hΛ : LoopsOK P Λ (bodyOf fn)) : SpecOK P k (fFn P (specsOf l) Λ fn) :=
  specOK_fast hΓ hm hfn hg hΛ fun _ _ _ h => denN_of h

theorem resB {a b : Bool} {u : List (Option (Option Blk))} {n : List Blk} (h : a = b) : some (Res.nrm ⟨.bool a, u, n⟩) = some (Res.nrm ⟨.bool b, u, n⟩) := by rw [h]
theorem resF {b : Bool} {u : List (Option (Option Blk))} {n : List Blk} (h : b = false) : some (Res.nrm ⟨.fls, u, n⟩) = some (Res.nrm ⟨.bool b, u, n⟩) := by rw [h]; rfl
theorem resT {b : Bool} {u : List (Option (Option Blk))} {n : List Blk} (h : b = true) : some (Res.nrm ⟨.tru, u, n⟩) = some (Res.nrm ⟨.bool b, u, n⟩) := by rw [h]; rfl
theorem denI {α : Type} (b : Bool) (x y : Tree α) : (Tree.ite b x y).den = if b = true then x.den else y.den := by cases b <;> rfl
theorem denLf {α : Type} (x : α) : (Tree.leaf x).den = some x := rfl
theorem denFl {α : Type} : (Tree.fail : Tree α).den = none := rfl
theorem drop_getD {xs : List Int} {k : Nat} (h : k < xs.length) : xs.drop k = xs.getD k 0 :: xs.drop (k + 1) := by
  rw [List.drop_eq_getElem_cons h, List.getD_eq_getElem?_getD, List.getElem?_eq_getElem h]; rfl
theorem nrmF {u : List (Option (Option Blk))} {n : List Blk} : Res.nrm ⟨.fls, u, n⟩ = Res.nrm ⟨.bool false, u, n⟩ := rfl
theorem nrmT {u : List (Option (Option Blk))} {n : List Blk} : Res.nrm ⟨.tru, u, n⟩ = Res.nrm ⟨.bool true, u, n⟩ := rfl
theorem iteR {c : Prop} [Decidable c] {a b : Bool} {u : List (Option (Option Blk))} {n : List Blk} : (if c then some (Res.nrm ⟨.bool a, u, n⟩) else some (Res.nrm ⟨.bool b, u, n⟩)) = some (Res.nrm ⟨.bool (if c then a else b), u, n⟩) := by split <;> rfl
theorem iteF (c a : Bool) : (if c = true then a else false) = (c && a) := by cases c <;> rfl
theorem iteT (c a : Bool) : (if c = true then true else a) = (c || a) := by cases c <;> rfl
theorem iteN (c a : Bool) : (if c = true then false else a) = (!c && a) := by cases c <;> rfl
theorem sEq_refl (x : ByteArray) : sEq x x = true := by simp [sEq]
end Go.Rx

namespace Go.Rx
open Go.ChangeShapes Go.WideShapes Go.ChangeAt Go.RowKit
def toLook : Blk → Blk
  | .rows sch rs => .look sch rs
  | bl => bl
theorem flat_toLook (bl : Blk) : flat (toLook bl) = flat bl := by cases bl <;> rfl
theorem brel_toLook {ρ : Rho} {s : Seg} {bl : Blk} {w : World} (r : BRel ρ s bl w) : BRel ρ s (toLook bl) w := by
  cases bl with
  | rows sch rs => exact r.flat rfl
  | _ => exact r
theorem law_contract_look [Glob] {C : Checked} {H : Type} {enc : TypeId × Value → H} (hl : laidOutB C.prog = true) {k : FuncId} {fn : Func}
    {S : ChangeSpec} (hv : S.vars = []) (hS : ∀ ds : List (DataW H), ds.length = fn.params.size → S.fn H ds = { results := [.lit (.bool true)], args := ds })
    {tb : TypeId} (hres : fn.resultTypes = #[tb]) (hb : C.prog.underlying tb = some .bool) (hrd : fn.params.toList.all (fun t => C.prog.readableRec t && decide (t < C.prog.types.size)) = true)
    {s : Spec} (hs : SpecOK C.prog k s) {pl : List (Bool × List CK)} (hpl : parsT C.prog fn.params.toList = some pl)
    (fits : AllP pl 0 fun as bs => ∃ u n, (s as (bs.map toLook)).den = some ⟨.bool true, u, n⟩ ∧ u.all Option.isNone = true ∧ (bs.map toLook).all isLook = true)
    (W : World) (base : Nat) (args : Array Value) (ds gs : List (DataW H)) (before : List MemPlace)
    (hval : ∀ (j : Nat) t v, fn.params[j]? = some t → args[j]? = some v → Value.okWide C.prog W .any base t v)
    (hW : DataW.Whole enc C.prog fn.params.toList S.vars false W args.toList ds gs before)
    (hsz : (DataW.weightsEach C.prog (fn.params.toList ++ S.plain.varTypes C.prog) (ds ++ gs)).all (· ≤ reachBytes) = true)
    (hg1 : Glob.N ≤ W.heap.size) (hg2 : Glob.G fun i => W.heap[i]?) (hg3 : ∀ s ∈ segsP pl args.toList, 0 < s.R → Glob.N ≤ s.r) :
    Calls C.prog k args W fun e W' => ∃ v, e = .returned v ∧ S.post enc C.prog fn false true false false W args v W' := by
  have hW' := hW
  obtain ⟨p, q, hA, hV, rfl, hfz, hnd⟩ := hW
  rw [hv] at hV
  obtain ⟨rfl, rfl⟩ := trodVars_none hV
  have hsm : small (DataW.weightsEach C.prog fn.params.toList ds) := by
    intro n hn
    have hvt : S.plain.varTypes C.prog = [] := by
      show S.vars.filterMap _ = []
      rw [hv]; rfl
    rw [hvt] at hsz
    simp only [List.append_nil] at hsz
    have := List.all_eq_true.1 hsz n hn
    simpa using this
  obtain ⟨as, bs, ⟨u, n, hden, hu, hlook⟩, hlen, hrel⟩ := allP_inst (base := base) hfz fn.params.toList pl args.toList ds p 0 _ hpl hA (fun x hx => List.mem_append.2 (.inl hx)) (fun j t v a b => hval j t v (by simpa using a) (by simpa using b)) hsm fits
  let ρ : Rho := fun b => (segsP pl args.toList)[b]?
  have hr := hrel ρ fun i s hs => by simpa [ρ] using hs
  have hbs : BsRel ρ (bs.map toLook) W := by
    refine ⟨fun b bl hbl => ?_, fun b c s t h1 h2 lk _ _ _ => ?_, fun b hb => ?_, hg1, hg2, fun b s hb => hg3 s (List.mem_of_getElem? hb)⟩
    · rw [List.getElem?_map] at hbl
      obtain ⟨bl', hbl', rfl⟩ := Option.map_eq_some_iff.1 hbl
      have hb' : b < (segsP pl args.toList).length := by rw [← hlen]; exact (List.getElem?_eq_some_iff.1 hbl').1
      exact ⟨_, List.getElem?_eq_getElem hb', brel_toLook (hr.2 b _ bl' (List.getElem?_eq_getElem hb') hbl')⟩
    · have h1' := (List.getElem?_eq_some_iff.1 h1).1
      have h2' := (List.getElem?_eq_some_iff.1 h2).1
      rw [← hlen] at h1' h2'
      have q : ∀ i, i < bs.length → lookO (bs.map toLook)[i]? = true := fun i hi => by
        rw [List.getElem?_map, List.getElem?_eq_getElem hi]
        exact List.all_eq_true.1 hlook _ (List.mem_map.2 ⟨_, List.getElem_mem hi, rfl⟩)
      rw [q b h1', q c h2'] at lk
      cases lk
    · exact List.getElem?_eq_none (by simp only [List.length_map] at hb; omega)
  refine (law_calls hs hden hu hr.1 hbs).mono fun e W' ⟨he, bel⟩ => ?_
  subst he
  have hdl : ds.length = fn.params.size := by
    have : ∀ {ts : List TypeId} {vs : List Value} {ds : List (DataW H)} {ps : List MemPlace}, DataW.TrodAll enc C.prog W 0 (fun _ => true) true ts vs ds ps → ds.length = ts.length := by
      intro ts
      induction ts with
      | nil => intro vs ds ps h; obtain ⟨_, rfl, _⟩ := trodAll_nil h; rfl
      | cons t ts ih => intro vs ds ps h; obtain ⟨_, _, _, _, _, _, _, rfl, _, _, hr⟩ := trodAll_cons h; simp [ih hr]
    simpa using this hA
  have hSe := hS (ds ++ []) (by simpa using hdl)
  refine ⟨_, rfl, ds, [], p ++ [], [], p, [], hW', ?_, ?_, ?_, bel.frame _, fun h => by cases h⟩
  · rw [hSe, hres]
    exact trodAll_mk1 (shut_bool hb _)
  · rw [hSe]
    simp only [List.append_nil]
    exact trodAll_stays hl bel hrd hA
  · rw [hSe, hv]
    rfl

/-- As law_lifted_shaped, of several slices that are read only, wherever they lie: the arguments hold slices of rows of six numbers or more: no variable is as long. -/
theorem law_lifted_look [Glob] {C : Checked} {os : Os} (started : os.Started) {H : Type} {enc : TypeId × Value → H} (own : ownKnob C.prog.godebug = none) (hl : laidOutB C.prog = true) {k : FuncId} {fn : Func} (hfn : C.prog.funcs[k]? = some fn) (noInit : C.prog.inits.idxOf? k = none)
    {S : ChangeSpec} {conds : List PathCond} {X : World → Array Value → Prop} (hX : ∀ (w w' : World) (args : Array Value), w.heap = w'.heap → X w args → X w' args)
    (hv : S.vars = []) (hS : ∀ ds : List (DataW H), ds.length = fn.params.size → S.fn H ds = { results := [.lit (.bool true)], args := ds })
    {tb : TypeId} (hres : fn.resultTypes = #[tb]) (hb : C.prog.underlying tb = some .bool) (hrd : fn.params.toList.all (fun t => C.prog.readableRec t && decide (t < C.prog.types.size)) = true)
    (witness : ∃ (w : World) (tape : Tape) (i : Input), w.os = os ∧ (w.forCall tape i).Shaped C.prog ∧ i.vars = [] ∧ Input.okWide C.prog (w.forCall tape i) .any w.heap.size k i ∧
      ((S.pre enc C.prog fn conds false (w.forCall tape i).memory i.args ∧ X (w.forCall tape i).memory i.args) ∧ sizedMet enc C.prog fn (OpenSpec.ofChange S) false (w.forCall tape i).memory i.args) ∧ ({} : Assume).holds C.prog (lone (Frame.enter C.prog k i.args .normal) [] (w.forCall tape i)))
    {s : Spec} (hs : SpecOK C.prog k s) {pl : List (Bool × List CK)} (hpl : parsT C.prog fn.params.toList = some pl) (h64 : pl.all (fun g => g.2.all ckSix) = true)
    (fits : AllP pl 0 fun as bs => ∃ u n, (s as (bs.map toLook)).den = some ⟨.bool true, u, n⟩ ∧ u.all Option.isNone = true ∧ (bs.map toLook).all isLook = true)
    (hglob : ∀ (W : World) (args : Array Value), W.ShapedOpen C.prog → X W args → Glob.N ≤ W.heap.size ∧ Glob.G fun i => W.heap[i]?)
    (hkind : ∀ (W : World) (args : Array Value), W.ShapedOpen C.prog → X W args → ∀ r, r < Glob.N → ∀ arr e fr, W.heap[r]? = some (.cells arr e fr) → 6 ≤ arr.size → ∀ (i : Nat) n, arr[i]? ≠ some (.int .i64 n)) :
    ReturnsInHanded {} C os k .any (fun w args => (S.pre enc C.prog fn conds false w args ∧ X w args) ∧ sizedMet enc C.prog fn (OpenSpec.ofChange S) false w args) (S.post enc C.prog fn false true false false) := by
  refine returnsInHanded_of_calls own started noInit witness ?_
  intro w tape i _ hsh _ hok hpre hholds
  obtain ⟨_, _, _, fn', hfn', _, _, _, _, hval⟩ := hok
  have e : fn' = fn := Option.some.inj (hfn'.symm.trans hfn)
  subst e
  obtain ⟨⟨⟨ds, gs, before, hw, hc⟩, hx⟩, hz⟩ := hpre
  have hW := DataW.Whole.of_heap (w' := w.forCall tape i) (by rfl) hw
  have hx := hX _ (w.forCall tape i) _ (by rfl) hx
  have hsz : (DataW.weightsEach C.prog (fn'.params.toList ++ S.plain.varTypes C.prog) (ds ++ gs)).all (· ≤ reachBytes) = true := hz.weights hw
  have hgl := hglob _ _ hsh hx
  refine (law_contract_look (base := w.heap.size) hl hv hS hres hb hrd hs hpl fits (w.forCall tape i) i.args ds gs before hval hW hsz hgl.1 hgl.2 ?_).mono fun e W' ⟨v, he, hp⟩ => ?_
  · intro sg hsg hR
    obtain ⟨p, q, hA, hV, rfl, hfz, hnd⟩ := hW
    rw [hv] at hV
    obtain ⟨rfl, rfl⟩ := trodVars_none hV
    have hsm : small (DataW.weightsEach C.prog fn'.params.toList ds) := by
      intro n hn
      have hvt : S.plain.varTypes C.prog = [] := by
        show S.vars.filterMap _ = []
        rw [hv]; rfl
      rw [hvt] at hsz
      simp only [List.append_nil] at hsz
      have := List.all_eq_true.1 hsz n hn
      simpa using this
    obtain ⟨arr, e, fr, n, hh, ha, h6⟩ := segsP_six hfz fn'.params.toList pl i.args.toList ds p hpl hA (fun x hx => List.mem_append.2 (.inl hx)) hsm h64 sg hsg hR
    by_cases hc : Glob.N ≤ sg.r
    · exact hc
    · exact absurd ha (hkind _ _ hsh hx sg.r (by omega) arr e fr hh (by omega) _ n)
  · subst he
    exact ChangeSpec.post_blind hp
end Go.Rx

namespace Go.Rx
def unLook : Blk → Blk
  | .look sch rs => .rows sch rs
  | bl => bl
theorem flat_unLook (bl : Blk) : flat (unLook bl) = flat bl := by cases bl <;> rfl
theorem brel_unLook {ρ : Rho} {s : Seg} {bl : Blk} {w : World} (r : BRel ρ s bl w) : BRel ρ s (unLook bl) w := by
  cases bl with
  | look sch rs => exact r.flat rfl
  | _ => exact r
theorem look_unLook (o : Option Blk) : lookO (o.map unLook) = false := by
  cases o with
  | none => rfl
  | some bl => cases bl <;> rfl
/-- At most one of them is read only. -/
def oneLook : List Blk → Bool
  | [] => true
  | b :: l => match isLook b with
    | true => l.all fun x => !isLook x
    | false => oneLook l
theorem no_look {l : List Blk} (h : (l.all fun x => !isLook x) = true) (i : Nat) : lookO l[i]? = false := by
  cases hi : l[i]? with
  | none => rfl
  | some x =>
    have := List.all_eq_true.1 h x (List.mem_of_getElem? hi)
    show isLook x = false
    simpa using this
theorem oneLook_eq : ∀ {l : List Blk}, oneLook l = true → ∀ {b c : Nat}, lookO l[b]? = true → lookO l[c]? = true → b = c
  | [], _, b, c, hb, _ => by simp [lookO] at hb
  | x :: l, h, b, c, hb, hc => by
    unfold oneLook at h
    cases hx : isLook x with
    | true =>
      rw [hx] at h
      have h : (l.all fun x => !isLook x) = true := h
      cases b with
      | zero => cases c with
        | zero => rfl
        | succ c => simp only [List.getElem?_cons_succ] at hc; rw [no_look h] at hc; cases hc
      | succ b => simp only [List.getElem?_cons_succ] at hb; rw [no_look h] at hb; cases hb
    | false =>
      rw [hx] at h
      have h : oneLook l = true := h
      cases b with
      | zero => simp only [List.getElem?_cons_zero, lookO, hx] at hb; cases hb
      | succ b => cases c with
        | zero => simp only [List.getElem?_cons_zero, lookO, hx] at hc; cases hc
        | succ c => simp only [List.getElem?_cons_succ] at hb hc; rw [oneLook_eq h hb hc]
def Spec.L (s : Spec) : Spec := fun a b => .lit (oneLook b) (s a (b.map unLook))
theorem SpecOK.L [Glob] {P : Program} {k : FuncId} {s : Spec} (h : SpecOK P k s) : SpecOK P k s.L := by
  refine ⟨?_, h.good⟩
  intro args bs r hr ρ xs w hx hbs
  unfold Spec.L at hr
  rw [den_lit] at hr
  obtain ⟨h1, hr⟩ := hr
  have hb : BsRel ρ (bs.map unLook) w := by
    refine ⟨fun b bl hbl => ?_, fun b c s t hb hc lk r1 r2 he => ?_, fun b hb => hbs.2.2.1 b (by simpa using hb), hbs.2.2.2⟩
    · rw [List.getElem?_map] at hbl
      obtain ⟨bl', h1, rfl⟩ := Option.map_eq_some_iff.1 hbl
      obtain ⟨s, h2, h3⟩ := hbs.1 b bl' h1
      exact ⟨s, h2, brel_unLook h3⟩
    · cases q : lookO bs[b]? && lookO bs[c]? with
      | false => exact hbs.2.1 b c s t hb hc q r1 r2 he
      | true =>
        rw [Bool.and_eq_true] at q
        exact oneLook_eq h1 q.1 q.2
  have := h.correct _ _ r hr ρ xs w hx hb
  simpa using this
end Go.Rx
