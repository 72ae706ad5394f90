/- Loops whose blocks are given up but for those that are kept; calls answered one way. No condition. -/
import Derived.Test.YtgdalboilghciaaRxB
import Derived.Test.YtgdalboilghciaaRxC
set_option linter.unusedSimpArgs false
set_option linter.unusedVariables false
set_option linter.unnecessarySimpa false
set_option linter.unusedSectionVars false
namespace Go.Rx
section
variable [Glob] {P : Program}

/-- Is a block as it was? -/
def keptB (u : List (Option (Option Blk))) (b : Nat) : Bool := match u[b]? with
  | some (some _) => false
  | _ => true
/-- So many rounds at the most, and how the loop ends. -/
def RunG [Glob] (P : Program) (K : List Nat) (nt : Nat) (live outs : List Nat) (c : Code) : Nat → List V → List Blk → Ex → List V → Prop
  | 0, _, _, _, _ => False
  | n + 1, vals, bs, e, vs => ∃ (Γ : Specs) (Λ : Nat → Option LSpec) (r1 : LRes), (∀ k s, Γ k = some s → SpecOK P k s) ∧ LoopsOK P Λ c ∧ (evRound P Γ Λ nt live outs c vals bs).den = some r1 ∧ K.all (keptB r1.upd) = true ∧
      ((r1.e ≠ .nrm ∧ e = r1.e ∧ vs = r1.vs) ∨ (r1.e = .nrm ∧ seqOk bs r1 = true ∧ K.all (fun b => (seqLs bs r1)[b]? == some b) = true ∧ RunG P K nt live outs c n (seqVals bs r1) (seqBlks bs r1) e vs))
def isScal : V → Bool
  | .any | .tru | .fls | .bool _ | .int _ _ => true
  | _ => false
omit [Glob] in
theorem scal_rel {ρ ρ' : Rho} {v : V} {x : Value} (h : isScal v = true) (r : VRel ρ v x) : VRel ρ' v x := by
  cases v with
  | any => simp [VRel]
  | tru => simpa only [VRel] using r
  | fls => simpa only [VRel] using r
  | bool b => simpa only [VRel] using r
  | int k n => simpa only [VRel] using r
  | _ => cases h
omit [Glob] in
theorem scals_rel {ρ ρ' : Rho} : ∀ {vs : List V} {xs : List Value}, vs.all isScal = true → VsRel ρ vs xs → VsRel ρ' vs xs
  | [], xs, _, r => by simpa [VsRel] using r
  | v :: vs, xs, h, r => by
    obtain ⟨y, ys, rfl, h1, h2⟩ := r
    rw [List.all_cons, Bool.and_eq_true] at h
    exact ⟨y, ys, rfl, scal_rel h.1 h1, scals_rel h.2 h2⟩
/-- All blocks but those that are kept are given up. -/
def goneU (K : List Nat) (n : Nat) : List (Option (Option Blk)) := (List.range n).map fun b => if K.contains b then none else some none
omit [Glob] in
theorem goneU_get {K : List Nat} {n b : Nat} {x : Option Blk} (h : (goneU K n)[b]? = some (some x)) : b < n ∧ K.contains b = false ∧ x = none := by
  unfold goneU at h
  rw [List.getElem?_map] at h
  obtain ⟨d, hd, he⟩ := Option.map_eq_some_iff.1 h
  obtain ⟨hlt, hd⟩ := List.getElem?_eq_some_iff.1 hd
  simp only [List.length_range] at hlt
  simp only [List.getElem_range] at hd
  subst hd
  split at he
  · cases he
  · rename_i hc
    cases he
    exact ⟨hlt, by simpa using hc, rfl⟩
omit [Glob] in
theorem goneU_lt {K : List Nat} {n b : Nat} (h : b < n) (hk : K.contains b = false) : (goneU K n)[b]? = some (some none) := by
  unfold goneU
  rw [List.getElem?_map, List.getElem?_range h]
  simp only [Option.map_some, hk]
  rfl
/-- What is told of a step, when all blocks are given up. -/
theorem PostR.gone {K : List Nat} {ρ : Rho} {bs : List Blk} {vs : List V} {xs : Array Value} {w w' : World} (hbs : BsRel ρ bs w) (hsc : vs.all isScal = true) {ρ' : Rho} (hv : VsRel ρ' vs xs.toList)
    (fr : Fr ρ (fun b => b < bs.length ∧ K.contains b = false) w w') : PostR ρ bs.length ⟨.tup vs, goneU K bs.length, []⟩ (.tuple xs) w w' ρ := by
  have hlt : ∀ b g, ρ b = some g → b < bs.length := by
    intro b g hg
    rcases Nat.lt_or_ge b bs.length with h | h
    · exact h
    · rw [hbs.2.2.1 b h] at hg; cases hg
  refine ⟨Le.refl _, fun b s hb => by simpa using hlt b s hb, ?_, ?_, fun j bl hj => by simp at hj, ?_, ?_, ?_⟩
  · simp only [VRel]
    exact ⟨xs, rfl, scals_rel hsc hv⟩
  · intro b x hb
    exact .inl (goneU_get hb).2.2
  · exact fr.weaken fun b hb => ⟨none, goneU_lt hb.1 hb.2⟩
  · intro j s hj
    have := hlt _ _ hj
    omega
  · intro i j s t hi
    have := hlt _ _ hi
    omega
theorem kept_of {K : List Nat} {u : List (Option (Option Blk))} (h : K.all (keptB u) = true) {b : Nat} {x : Option Blk} (hb : u[b]? = some (some x)) : K.contains b = false := by
  cases hc : K.contains b with
  | false => rfl
  | true =>
    have := List.all_eq_true.1 h b (by simpa using hc)
    unfold keptB at this
    rw [hb] at this
    cases this
theorem fr_of {K : List Nat} {ρ ρf : Rho} {bs : List Blk} {r : Res} {v : Value} {w w1 : World} (hbs : BsRel ρ bs w) (hk : K.all (keptB r.upd) = true) (hp : PostR ρ bs.length r v w w1 ρf) : Fr ρ (fun b => b < bs.length ∧ K.contains b = false) w w1 := by
  refine ⟨hp.fr.os, hp.fr.tape, hp.fr.output, hp.fr.size, fun i hi k => hp.fr.block i hi fun b s hu hb h0 => ?_⟩
  obtain ⟨x, hx⟩ := hu
  refine k b s ⟨?_, kept_of hk hx⟩ hb h0
  rcases Nat.lt_or_ge b bs.length with h | h
  · exact h
  · rw [hbs.2.2.1 b h] at hb; cases hb
theorem runG_rounds {K : List Nat} (hm : P.follows .mixedOrders = true) {c : Code} (ls : LSpec) {e : Ex} {vs : List V} (hsc : vs.all isScal = true) :
    ∀ (n : Nat) (vals : List V) (bs : List Blk), RunG P K ls.nt ls.live ls.outs c n vals bs e vs → ∀ (ρ : Rho) (a : Act) (w : World), a.defers = [] → a.tmps.size = ls.nt →
    VsRel ρ vals (ls.live.map fun t => a.tmps.getD t undef) → BsRel ρ bs w →
    Code.rounds P c (fun ex a' w' => ex = e.to ∧ PostL ρ bs.length ls (dstsOf c) ⟨e, vs, goneU K bs.length, []⟩ a w a' w' ρ) n a w
  | 0, vals, bs, h, ρ, a, w, hd, hsz, hv, hbs => h.elim
  | n + 1, vals, bs, h, ρ, a, w, hd, hsz, hv, hbs => by
    obtain ⟨Γ, Λ, r1, hΓ, hΛ, h1, hkp, h2⟩ := h
    unfold evRound at h1
    rw [den_bind_some] at h1
    obtain ⟨⟨e1, s⟩, hev, h1⟩ := h1
    simp only at h1
    rw [den_lit] at h1
    obtain ⟨hlen, h1⟩ := h1
    simp only [Nat.beq_eq] at hlen
    rw [den_bind_some] at h1
    obtain ⟨⟨vs1, u, nw⟩, hpk, h1⟩ := h1
    rw [den_leaf] at h1
    subst h1
    simp only at h2
    have hs0 : SRel ρ ⟨putsT (List.replicate ls.nt .any) ls.live vals, bs.map some, []⟩ a w := by
      refine start_rel hbs (puts_rel _ _ _ hv fun t => ?_) (by rw [length_puts]; simp [hsz]) hd
      rw [getD_replicate_any]; simp [VRel]
    rw [rounds_succ]
    refine wp_mono (ev_wp hΓ hm c _ e1 s hΛ hev ρ a w hs0) ?_
    rintro e' a1 w1 ⟨rfl, hk, ρ1, hs1, hl⟩
    have hsz1 : a1.tmps.size = ls.nt := by rw [hs1.size, hlen]
    obtain ⟨lv, hlv1, hlv2, hpk⟩ : ∃ lv, (e1 = .nrm → lv = ls.live) ∧ (e1 ≠ .nrm → lv = ls.outs) ∧ (pack bs.length s (lv.map fun t => clean s.hp (s.tm t))).den = some (vs1, u, nw) := by
      cases e1 with
      | nrm => exact ⟨_, fun _ => rfl, fun h => absurd rfl h, hpk⟩
      | exit i => exact ⟨_, fun h => (by simp at h), fun _ => rfl, hpk⟩
      | ret => exact ⟨_, fun h => (by simp at h), fun _ => rfl, hpk⟩
    obtain ⟨ρf, hvf, hpost⟩ := pack_post hbs hs1.hrel hl (vals_rel (fun t => clean_rel (hs1.rel.T t)) lv) hpk
    rcases h2 with ⟨he, rfl, rfl⟩ | ⟨he, hok, hself, hrun⟩
    · have hlv := hlv2 he
      subst hlv
      have hp1 : PostR ρ bs.length ⟨.tup vs, u, nw⟩ (.tuple (ls.outs.map fun t => a1.tmps.getD t undef).toArray) w w1 ρf := hpost _ _ (by
        simp only [VRel]
        exact ⟨_, rfl, by simpa using hvf⟩)
      have hres : PostL ρ bs.length ls (dstsOf c) ⟨e, vs, goneU K bs.length, []⟩ a w a1 w1 ρ := by
        refine ⟨PostR.gone hbs hsc (ρ' := ρf) (by simpa using hvf) (fr_of hbs hkp hp1), hk, by rw [hsz1, hsz], by rw [hs1.defers, hd]⟩
      cases e with
      | nrm => exact absurd rfl he
      | exit i => exact ⟨rfl, hres⟩
      | ret => exact ⟨rfl, hres⟩
    · subst he
      have hlv := hlv1 rfl
      subst hlv
      simp only [Ex.to, Exit.then]
      have hp1 : PostR ρ bs.length ⟨.tup vs1, u, nw⟩ (.tuple (ls.live.map fun t => a1.tmps.getD t undef).toArray) w w1 ρf := hpost _ _ (by
        simp only [VRel]
        exact ⟨_, rfl, by simpa using hvf⟩)
      simp only [seqOk, Bool.and_eq_true] at hok
      obtain ⟨⟨hok1, hbls⟩, hcl⟩ := hok
      obtain ⟨bls, hbls⟩ := Option.isSome_iff_exists.1 hbls
      simp only [seqBlks, hbls, Option.getD_some] at hrun
      simp only [seqVals] at hrun
      simp only [seqLs, seqS] at hok1 hbls hcl hrun hself
      have hhp0 : St.hp ⟨List.replicate ls.nt .any, bs.map some, []⟩ = fun b => bs[b]? := by
        funext b
        simp only [St.hp, List.getElem?_map]
        cases bs[b]? <;> rfl
      have hsA : SRel ρ ⟨List.replicate ls.nt .any, bs.map some, []⟩ a w := start_rel hbs (fun t => by rw [getD_replicate_any]; simp [VRel]) (by simp [hsz]) hd
      obtain ⟨hB, hLB⟩ := Rel.ofPost (e := ⟨.tup vs1, List.range bs.length, wrRound bs.length u nw⟩) (T' := List.replicate ls.nt .any) (a' := a1) hsA (hp1.toPost hbs _)
        (by simp only [List.length_map]; rw [hhp0]; exact hok1) (fun b hb => hbs.2.2.1 b (by simpa using hb)) (fun t => by rw [getD_replicate_any]; simp [VRel]) (by simp [hsz1]) hs1.defers
      simp only [List.append_nil] at hB hLB
      generalize hH1 : setH (bs.map some) (wrRound bs.length u nw) = H1 at hbls hcl hrun hself hB hLB
      generalize hD1 : (wrRound bs.length u nw).map (·.1) = D1 at hbls hcl hrun hself hB hLB
      generalize hls : reach (St.hp ⟨[], H1, D1⟩) 200 (locsV.locsVs vs1) [] = l1 at hbls hcl hrun hself
      obtain ⟨g1, g2, g3, g4⟩ := core (n := H1.length) hbls hcl hB.rel.W hvf (fun b _ bl hbl => hB.rel.H b bl hbl) (fun b _ d _ hb hd => hB.rel.I b d hb hd)
      have ih := runG_rounds hm ls hsc n _ _ hrun (ownRho l1 ρf) a1 w1 hs1.defers hsz1 g1 g2
      refine rounds_mono ?_ n a1 w1 ih
      rintro e2 a2 w2 ⟨rfl, hp2⟩
      refine ⟨rfl, ?_, fun t ht => by rw [hp2.keep t ht, hk t ht], by rw [hp2.size, hsz1, hsz], by rw [hp2.defers, hs1.defers, hd]⟩
      have hval := hp2.post.val
      simp only [VRel] at hval
      obtain ⟨xs, hxs, hval⟩ := hval
      simp only [Value.tuple.injEq] at hxs
      subst hxs
      refine PostR.gone hbs hsc hval ?_
      have f1 := fr_of hbs hkp hp1
      have f2 := hp2.post.fr
      refine ⟨f2.os.trans f1.os, f2.tape.trans f1.tape, f2.output.trans f1.output, Nat.le_trans f1.size f2.size, fun i hi k => ?_⟩
      refine (f2.block i (Nat.lt_of_lt_of_le hi f1.size) fun b s hW hb h0 => ?_).trans (f1.block i hi k)
      obtain ⟨y, hy⟩ := hW
      obtain ⟨_, hbK, _⟩ := goneU_get hy
      obtain ⟨d, hbd, hd⟩ : ∃ d, l1[b]? = some d ∧ ρf d = some s := by
        unfold ownRho at hb
        exact Option.bind_eq_some_iff.1 hb
      have hdK : K.contains d = false := by
        cases hc : K.contains d with
        | false => rfl
        | true =>
          have h1 := List.all_eq_true.1 hself d (by simpa using hc)
          simp only [beq_iff_eq] at h1
          have hnd : l1.Nodup := by
            simp only [closed, Bool.and_eq_true] at hcl
            exact noDup_nodup hcl.1.1
          obtain ⟨hb1, hb2⟩ := List.getElem?_eq_some_iff.1 hbd
          obtain ⟨hd1, hd2⟩ := List.getElem?_eq_some_iff.1 h1
          have := (List.getElem_inj (h₀ := hb1) (h₁ := hd1) hnd).1 (hb2.trans hd2.symm)
          subst this
          rw [hc] at hbK
          cases hbK
      rcases Nat.lt_or_ge d bs.length with hlt | hge
      · obtain ⟨g, hg, _⟩ := hbs.1 d bs[d] (List.getElem?_eq_getElem hlt)
        have := hp1.le d g hg
        rw [hd] at this; cases this
        exact k d s ⟨hlt, hdK⟩ hg h0
      · rcases hp1.fresh (d - bs.length) s (by rwa [show bs.length + (d - bs.length) = d by omega]) with q | q | ⟨c', t, h1, h2, h3, h4⟩
        · omega
        · omega
        · have hc : c' < bs.length := by
            rcases Nat.lt_or_ge c' bs.length with h | h
            · exact h
            · rw [hbs.2.2.1 c' h] at h2; cases h2
          rw [← h4]
          exact k c' t ⟨hc, kept_of hkp h1⟩ h2 h3
/-- A loop that gives up its blocks. -/
theorem loop_okG (K : List Nat) (hm : P.follows .mixedOrders = true) {c : Code} (ls : LSpec)
    (h : ∀ vals bs r, (ls.f vals bs).den = some r → r.vs.all isScal = true ∧ r.upd = goneU K bs.length ∧ r.new = [] ∧ ∃ n, RunG P K ls.nt ls.live ls.outs c n vals bs r.e r.vs) : LoopOK P c ls := by
  intro vals bs r hr ρ a w hd hsz hv hbs
  obtain ⟨h1, h2, h3, n, hn⟩ := h vals bs r hr
  refine wp_loop_rounds n (rounds_mono ?_ n a w (runG_rounds hm ls h1 n vals bs hn ρ a w hd hsz hv hbs))
  rintro e a' w' ⟨rfl, hp⟩
  refine ⟨rfl, ρ, ?_⟩
  obtain ⟨e, vs, u, nw⟩ := r
  simp only at h2 h3
  subst h2 h3
  exact hp
/-- A call that is answered one way only. -/
noncomputable def eqAB (a A : List V) (b B : List Blk) : Bool := @decide (a = A ∧ b = B) (Classical.propDecidable _)
theorem eqAB_self (a : List V) (b : List Blk) : eqAB a a b b = true := by
  unfold eqAB
  exact @decide_eq_true _ (Classical.propDecidable _) ⟨rfl, rfl⟩
noncomputable def orS (A : List V) (B : List Blk) (R : Res) : Spec := fun a b => .need (eqAB a A b B) (.leaf R)
theorem or_ok {k : FuncId} {s : Spec} (h : SpecOK P k s) {A : List V} {B : List Blk} {R : Res} (hR : (s A B).denN = some R.nrm) : SpecOK P k (orS A B R) := by
  refine specGive h ?_
  intro args bs r hr
  unfold orS at hr
  rw [den_need, den_leaf] at hr
  obtain ⟨he, rfl⟩ := hr
  have he : args = A ∧ bs = B := by
    unfold eqAB at he
    exact @of_decide_eq_true _ (Classical.propDecidable _) he
  obtain ⟨rfl, rfl⟩ := he
  refine ⟨R.upd, hR, ?_⟩
  have : ∀ u, gu u u := fun u => by
    induction u with
    | nil => trivial
    | cons a b ih => exact ⟨.inl rfl, ih⟩
  exact this _
end
end Go.Rx
