/- The abstract evaluator: loops that give up their blocks, loops of which all blocks are told. No condition. -/
import Derived.Test.YtgdalboilghciaaRxB
import Derived.Test.YtgdalboilghciaaRxC
set_option linter.unusedSimpArgs false
set_option linter.unusedVariables false
set_option linter.unnecessarySimpa false
set_option linter.unusedSectionVars false
namespace Go.Rx
section
variable [Glob] {P : Program}

/-- Is a block as it was? -/
def keptB (u : List (Option (Option Blk))) (b : Nat) : Bool := match u[b]? with
  | some (some _) => false
  | _ => true
/-- So many rounds at the most, and how the loop ends. -/
def RunG [Glob] (P : Program) (K : List Nat) (nt : Nat) (live outs : List Nat) (c : Code) : Nat → List V → List Blk → Ex → List V → Prop
  | 0, _, _, _, _ => False
  | n + 1, vals, bs, e, vs => ∃ (Γ : Specs) (Λ : Nat → Option LSpec) (r1 : LRes), (∀ k s, Γ k = some s → SpecOK P k s) ∧ LoopsOK P Λ c ∧ (evRound P Γ Λ nt live outs c vals bs).den = some r1 ∧ K.all (keptB r1.upd) = true ∧
      ((r1.e ≠ .nrm ∧ e = r1.e ∧ vs = r1.vs) ∨ (r1.e = .nrm ∧ seqOk bs r1 = true ∧ K.all (fun b => (seqLs bs r1)[b]? == some b) = true ∧ RunG P K nt live outs c n (seqVals bs r1) (seqBlks bs r1) e vs))
def isScal : V → Bool
  | .any | .tru | .fls | .bool _ | .int _ _ => true
  | _ => false
omit [Glob] in
theorem scal_rel {ρ ρ' : Rho} {v : V} {x : Value} (h : isScal v = true) (r : VRel ρ v x) : VRel ρ' v x := by
  cases v with
  | any => simp [VRel]
  | tru => simpa only [VRel] using r
  | fls => simpa only [VRel] using r
  | bool b => simpa only [VRel] using r
  | int k n => simpa only [VRel] using r
  | _ => cases h
omit [Glob] in
theorem scals_rel {ρ ρ' : Rho} : ∀ {vs : List V} {xs : List Value}, vs.all isScal = true → VsRel ρ vs xs → VsRel ρ' vs xs
  | [], xs, _, r => by simpa [VsRel] using r
  | v :: vs, xs, h, r => by
    obtain ⟨y, ys, rfl, h1, h2⟩ := r
    rw [List.all_cons, Bool.and_eq_true] at h
    exact ⟨y, ys, rfl, scal_rel h.1 h1, scals_rel h.2 h2⟩
/-- All blocks but those that are kept are given up. -/
def goneU (K : List Nat) (n : Nat) : List (Option (Option Blk)) := (List.range n).map fun b => if K.contains b then none else some none
omit [Glob] in
theorem goneU_get {K : List Nat} {n b : Nat} {x : Option Blk} (h : (goneU K n)[b]? = some (some x)) : b < n ∧ K.contains b = false ∧ x = none := by
  unfold goneU at h
  rw [List.getElem?_map] at h
  obtain ⟨d, hd, he⟩ := Option.map_eq_some_iff.1 h
  obtain ⟨hlt, hd⟩ := List.getElem?_eq_some_iff.1 hd
  simp only [List.length_range] at hlt
  simp only [List.getElem_range] at hd
  subst hd
  split at he
  · cases he
  · rename_i hc
    cases he
    exact ⟨hlt, by simpa using hc, rfl⟩
omit [Glob] in
theorem goneU_lt {K : List Nat} {n b : Nat} (h : b < n) (hk : K.contains b = false) : (goneU K n)[b]? = some (some none) := by
  unfold goneU
  rw [List.getElem?_map, List.getElem?_range h]
  simp only [Option.map_some, hk]
  rfl
/-- What is told of a step, when all blocks are given up. -/
theorem PostR.gone {K : List Nat} {ρ : Rho} {bs : List Blk} {vs : List V} {xs : Array Value} {w w' : World} (hbs : BsRel ρ bs w) (hsc : vs.all isScal = true) {ρ' : Rho} (hv : VsRel ρ' vs xs.toList)
    (fr : Fr ρ (fun b => b < bs.length ∧ K.contains b = false) w w') : PostR ρ bs.length ⟨.tup vs, goneU K bs.length, []⟩ (.tuple xs) w w' ρ := by
  have hlt : ∀ b g, ρ b = some g → b < bs.length := by
    intro b g hg
    rcases Nat.lt_or_ge b bs.length with h | h
    · exact h
    · rw [hbs.2.2.1 b h] at hg; cases hg
  refine ⟨Le.refl _, fun b s hb => by simpa using hlt b s hb, ?_, ?_, fun j bl hj => by simp at hj, ?_, ?_, ?_⟩
  · simp only [VRel]
    exact ⟨xs, rfl, scals_rel hsc hv⟩
  · intro b x hb
    exact .inl (goneU_get hb).2.2
  · exact fr.weaken fun b hb => ⟨none, goneU_lt hb.1 hb.2⟩
  · intro j s hj
    have := hlt _ _ hj
    omega
  · intro i j s t hi
    have := hlt _ _ hi
    omega
theorem kept_of {K : List Nat} {u : List (Option (Option Blk))} (h : K.all (keptB u) = true) {b : Nat} {x : Option Blk} (hb : u[b]? = some (some x)) : K.contains b = false := by
  cases hc : K.contains b with
  | false => rfl
  | true =>
    have := List.all_eq_true.1 h b (by simpa using hc)
    unfold keptB at this
    rw [hb] at this
    cases this
/-- A call that is answered one way only. -/
noncomputable def eqAB (a A : List V) (b B : List Blk) : Bool := @decide (a = A ∧ b = B) (Classical.propDecidable _)
theorem eqAB_self (a : List V) (b : List Blk) : eqAB a a b b = true := by
  unfold eqAB
  exact @decide_eq_true _ (Classical.propDecidable _) ⟨rfl, rfl⟩
noncomputable def orS (A : List V) (B : List Blk) (R : Res) : Spec := fun a b => .need (eqAB a A b B) (.leaf R)
theorem or_ok {k : FuncId} {s : Spec} (h : SpecOK P k s) {A : List V} {B : List Blk} {R : Res} (hR : (s A B).denN = some R.nrm) : SpecOK P k (orS A B R) := by
  refine specGive h ?_
  intro args bs r hr
  unfold orS at hr
  rw [den_need, den_leaf] at hr
  obtain ⟨he, rfl⟩ := hr
  have he : args = A ∧ bs = B := by
    unfold eqAB at he
    exact @of_decide_eq_true _ (Classical.propDecidable _) he
  obtain ⟨rfl, rfl⟩ := he
  refine ⟨R.upd, hR, ?_⟩
  have : ∀ u, gu u u := fun u => by
    induction u with
    | nil => trivial
    | cons a b ih => exact ⟨.inl rfl, ih⟩
  exact this _
end
end Go.Rx

namespace Go.Rx
section
variable [Glob] {P : Program}
def notGone : Option (Option Blk) → Bool
  | some none => false
  | _ => true
/-- So many rounds at the most, how the loop ends, and what the blocks hold then. -/
def RunT (P : Program) (nb : Nat) (K : List Nat) (nt : Nat) (live outs : List Nat) (c : Code) : Nat → List V → List Blk → Ex → List V → List Blk → Prop
  | 0, _, _, _, _, _ => False
  | n + 1, vals, bs, e, vs, bF => ∃ (Γ : Specs) (Λ : Nat → Option LSpec) (r1 : LRes), (∀ k s, Γ k = some s → SpecOK P k s) ∧ LoopsOK P Λ c ∧ (evRound P Γ Λ nt live outs c vals bs).den = some r1 ∧
      ((r1.e ≠ .nrm ∧ e = r1.e ∧ vs = r1.vs ∧ bF = bs ∧ r1.upd = List.replicate bs.length none ∧ r1.new = []) ∨
       (r1.e = .nrm ∧ seqOk bs r1 = true ∧ K.all (keptB r1.upd) = true ∧ r1.upd.all notGone = true ∧ (List.range nb).all (fun b => (seqLs bs r1)[b]? == some b) = true ∧ RunT P nb K nt live outs c n (seqVals bs r1) (seqBlks bs r1) e vs bF))
/-- What is known at a round's start, seen from the loop's. -/
structure Seen (nb : Nat) (K : List Nat) (ρ0 : Rho) (w0 : World) (ρ : Rho) (w : World) : Prop where
  old : ∀ b, b < nb → ∃ s, ρ0 b = some s ∧ ρ b = some s
  new : ∀ b s, nb ≤ b → ρ b = some s → s.R = 0 ∨ w0.heap.size ≤ s.r
  fr : Fr ρ0 (fun b => b < nb ∧ K.contains b = false) w0 w
theorem runT_rounds {nb : Nat} {K : List Nat} (hm : P.follows .mixedOrders = true) {c : Code} (ls : LSpec) {e : Ex} {vs : List V} {bF : List Blk} (ρ0 : Rho) (w0 : World) :
    ∀ (n : Nat) (vals : List V) (bs : List Blk), RunT P nb K ls.nt ls.live ls.outs c n vals bs e vs bF → nb ≤ bs.length → ∀ (ρ : Rho) (a : Act) (w : World), a.defers = [] → a.tmps.size = ls.nt →
    VsRel ρ vals (ls.live.map fun t => a.tmps.getD t undef) → BsRel ρ bs w → Seen nb K ρ0 w0 ρ w →
    Code.rounds P c (fun ex a' w' => ex = e.to ∧ ∃ ρ', BsRel ρ' bF w' ∧ Seen nb K ρ0 w0 ρ' w' ∧ VsRel ρ' vs (ls.outs.map fun t => a'.tmps.getD t undef) ∧ (∀ t, t ∉ dstsOf c → a'.tmps.getD t undef = a.tmps.getD t undef) ∧ a'.tmps.size = a.tmps.size ∧ a'.defers = a.defers) n a w
  | 0, vals, bs, h, _, ρ, a, w, hd, hsz, hv, hbs, hse => h.elim
  | n + 1, vals, bs, h, hnb, ρ, a, w, hd, hsz, hv, hbs, hse => by
    obtain ⟨Γ, Λ, r1, hΓ, hΛ, h1, h2⟩ := h
    unfold evRound at h1
    rw [den_bind_some] at h1
    obtain ⟨⟨e1, s⟩, hev, h1⟩ := h1
    simp only at h1
    rw [den_lit] at h1
    obtain ⟨hlen, h1⟩ := h1
    simp only [Nat.beq_eq] at hlen
    rw [den_bind_some] at h1
    obtain ⟨⟨vs1, u, nw⟩, hpk, h1⟩ := h1
    rw [den_leaf] at h1
    subst h1
    simp only at h2
    have hs0 : SRel ρ ⟨putsT (List.replicate ls.nt .any) ls.live vals, bs.map some, []⟩ a w := by
      refine start_rel hbs (puts_rel _ _ _ hv fun t => ?_) (by rw [length_puts]; simp [hsz]) hd
      rw [getD_replicate_any]; simp [VRel]
    rw [rounds_succ]
    refine wp_mono (ev_wp hΓ hm c _ e1 s hΛ hev ρ a w hs0) ?_
    rintro e' a1 w1 ⟨rfl, hk, ρ1, hs1, hl⟩
    have hsz1 : a1.tmps.size = ls.nt := by rw [hs1.size, hlen]
    obtain ⟨lv, hlv1, hlv2, hpk⟩ : ∃ lv, (e1 = .nrm → lv = ls.live) ∧ (e1 ≠ .nrm → lv = ls.outs) ∧ (pack bs.length s (lv.map fun t => clean s.hp (s.tm t))).den = some (vs1, u, nw) := by
      cases e1 with
      | nrm => exact ⟨_, fun _ => rfl, fun h => absurd rfl h, hpk⟩
      | exit i => exact ⟨_, fun h => (by simp at h), fun _ => rfl, hpk⟩
      | ret => exact ⟨_, fun h => (by simp at h), fun _ => rfl, hpk⟩
    obtain ⟨ρf, hvf, hpost⟩ := pack_post hbs hs1.hrel hl (vals_rel (fun t => clean_rel (hs1.rel.T t)) lv) hpk
    have hlt : ∀ b g, ρ b = some g → b < bs.length := by
      intro b g hg
      rcases Nat.lt_or_ge b bs.length with h | h
      · exact h
      · rw [hbs.2.2.1 b h] at hg; cases hg
    have hfr : ∀ (ρ1 : Rho) (v : Value) (u1 : List (Option (Option Blk))) (n1 : List Blk) (x : V), PostR ρ bs.length ⟨x, u1, n1⟩ v w w1 ρ1 → K.all (keptB u1) = true → Fr ρ0 (fun b => b < nb ∧ K.contains b = false) w0 w1 := by
      intro ρ1 v u1 n1 x hp hkp
      refine ⟨hp.fr.os.trans hse.fr.os, hp.fr.tape.trans hse.fr.tape, hp.fr.output.trans hse.fr.output, Nat.le_trans hse.fr.size hp.fr.size, fun i hi k => ?_⟩
      refine (hp.fr.block i (Nat.lt_of_lt_of_le hi hse.fr.size) fun b s hu hb h0 => ?_).trans (hse.fr.block i hi k)
      obtain ⟨y, hy⟩ := hu
      rcases Nat.lt_or_ge b nb with hbn | hbn
      · obtain ⟨g, hg0, hg⟩ := hse.old b hbn
        rw [hb] at hg; cases hg
        exact k b s ⟨hbn, kept_of hkp hy⟩ hg0 h0
      · rcases hse.new b s hbn hb with q | q
        · omega
        · omega
    rcases h2 with ⟨he, rfl, rfl, rfl, hu0, hn0⟩ | ⟨he, hok, hkp, hng, hself, hrun⟩
    · have hlv := hlv2 he
      subst hlv
      subst hu0 hn0
      have hp1 : PostR ρ bF.length ⟨.tup vs, List.replicate bF.length none, []⟩ (.tuple (ls.outs.map fun t => a1.tmps.getD t undef).toArray) w w1 ρf := hpost _ _ (by
        simp only [VRel]
        exact ⟨_, rfl, by simpa using hvf⟩)
      have hwr : wrRound bF.length (List.replicate bF.length (none : Option (Option Blk))) [] = [] := by
        refine List.eq_nil_iff_forall_not_mem.2 fun x hx => ?_
        obtain ⟨b, y⟩ := x
        rcases mem_wrRound.1 hx with ⟨_, h⟩ | ⟨j, bl, h, _⟩
        · rw [List.getElem?_replicate] at h
          split at h <;> simp at h
        · simp at h
      have hsA : SRel ρ ⟨List.replicate ls.nt .any, bF.map some, []⟩ a w := start_rel hbs (fun t => by rw [getD_replicate_any]; simp [VRel]) (by simp [hsz]) hd
      have hkp : K.all (keptB (List.replicate bF.length (none : Option (Option Blk)))) = true := by
        rw [List.all_eq_true]
        intro b _
        unfold keptB
        rw [List.getElem?_replicate]
        split <;> rename_i h
        · split at h <;> cases h
        · rfl
      have hpp := hp1.toPost hbs (List.range bF.length)
      obtain ⟨hB, hLB⟩ := Rel.ofPost (e := ⟨.tup vs, List.range bF.length, wrRound bF.length (List.replicate bF.length (none : Option (Option Blk))) []⟩) (T' := List.replicate ls.nt .any) (a' := a1) hsA hpp
        (by
          have hhp0 : St.hp ⟨List.replicate ls.nt .any, bF.map some, []⟩ = fun b => bF[b]? := by
            funext b
            simp only [St.hp, List.getElem?_map]
            cases bF[b]? <;> rfl
          simp only [List.length_map]
          rw [hhp0, hwr]
          rfl) (fun b hb => hbs.2.2.1 b (by simpa using hb)) (fun t => by rw [getD_replicate_any]; simp [VRel]) (by simp [hsz1]) hs1.defers
      rw [hwr] at hB
      have hB : SRel ρf ⟨List.replicate ls.nt .any, bF.map some, []⟩ a1 w1 := hB
      have hhp : ∀ b bl, bF[b]? = some bl → St.hp ⟨List.replicate ls.nt .any, bF.map some, []⟩ b = some bl := by
        intro b bl hb
        simp only [St.hp, List.getElem?_map, hb]
        rfl
      have hold : ∀ b, b < bF.length → ρf b = ρ b := by
        intro b hb
        obtain ⟨g, hg, _⟩ := hbs.1 b bF[b] (List.getElem?_eq_getElem hb)
        rw [hg]
        exact hp1.le b g hg
      have hdom : ∀ b s, ρf b = some s → b < bF.length := fun b s hb => by simpa using hp1.dom b s hb
      have hres : BsRel ρf bF w1 := by
        refine ⟨fun b bl hb => hB.rel.H b bl (hhp b bl hb), fun b c s t hb hc hlk h1 h2 h3 => ?_, fun b hb => ?_, hB.rel.W⟩
        · refine hbs.2.1 b c s t ?_ ?_ hlk h1 h2 h3
          · rw [← hold b (hdom b s hb)]; exact hb
          · rw [← hold c (hdom c t hc)]; exact hc
        · cases hq : ρf b with
          | none => rfl
          | some s => have := hdom b s hq; omega
      have hsee : Seen nb K ρ0 w0 ρf w1 := by
        refine ⟨fun b hb => ?_, fun b s hb hs => ?_, hfr _ _ _ _ _ hp1 hkp⟩
        · obtain ⟨s, h1, h2⟩ := hse.old b hb
          exact ⟨s, h1, by rw [hold b (by omega)]; exact h2⟩
        · exact hse.new b s hb (by rw [← hold b (hdom b s hs)]; exact hs)
      cases e with
      | nrm => exact absurd rfl he
      | exit i => exact ⟨rfl, ρf, hres, hsee, hvf, hk, by rw [hsz1, hsz], by rw [hs1.defers, hd]⟩
      | ret => exact ⟨rfl, ρf, hres, hsee, hvf, hk, by rw [hsz1, hsz], by rw [hs1.defers, hd]⟩
    · subst he
      have hlv := hlv1 rfl
      subst hlv
      simp only [Ex.to, Exit.then]
      have hp1 : PostR ρ bs.length ⟨.tup vs1, u, nw⟩ (.tuple (ls.live.map fun t => a1.tmps.getD t undef).toArray) w w1 ρf := hpost _ _ (by
        simp only [VRel]
        exact ⟨_, rfl, by simpa using hvf⟩)
      simp only [seqOk, Bool.and_eq_true] at hok
      obtain ⟨⟨hok1, hbls⟩, hcl⟩ := hok
      obtain ⟨bls, hbls⟩ := Option.isSome_iff_exists.1 hbls
      simp only [seqBlks, hbls, Option.getD_some] at hrun
      simp only [seqVals] at hrun
      simp only [seqLs, seqS] at hok1 hbls hcl hrun hself
      have hhp0 : St.hp ⟨List.replicate ls.nt .any, bs.map some, []⟩ = fun b => bs[b]? := by
        funext b
        simp only [St.hp, List.getElem?_map]
        cases bs[b]? <;> rfl
      have hsA : SRel ρ ⟨List.replicate ls.nt .any, bs.map some, []⟩ a w := start_rel hbs (fun t => by rw [getD_replicate_any]; simp [VRel]) (by simp [hsz]) hd
      obtain ⟨hB, hLB⟩ := Rel.ofPost (e := ⟨.tup vs1, List.range bs.length, wrRound bs.length u nw⟩) (T' := List.replicate ls.nt .any) (a' := a1) hsA (hp1.toPost hbs _)
        (by simp only [List.length_map]; rw [hhp0]; exact hok1) (fun b hb => hbs.2.2.1 b (by simpa using hb)) (fun t => by rw [getD_replicate_any]; simp [VRel]) (by simp [hsz1]) hs1.defers
      simp only [List.append_nil] at hB hLB
      generalize hH1 : setH (bs.map some) (wrRound bs.length u nw) = H1 at hbls hcl hrun hself hB hLB
      generalize hD1 : (wrRound bs.length u nw).map (·.1) = D1 at hbls hcl hrun hself hB hLB
      generalize hls : reach (St.hp ⟨[], H1, D1⟩) 200 (locsV.locsVs vs1) [] = l1 at hbls hcl hrun hself
      obtain ⟨g1, g2, g3, g4⟩ := core (n := H1.length) hbls hcl hB.rel.W hvf (fun b _ bl hbl => hB.rel.H b bl hbl) (fun b _ d _ hb hd => hB.rel.I b d hb hd)
      have hnd : l1.Nodup := by
        simp only [closed, Bool.and_eq_true] at hcl
        exact noDup_nodup hcl.1.1
      have hat : ∀ b, b < nb → l1[b]? = some b := by
        intro b hb
        have := List.all_eq_true.1 hself b (by simpa using hb)
        simpa using this
      have hold : ∀ b, b < bs.length → ρf b = ρ b := by
        intro b hb
        obtain ⟨g, hg, _⟩ := hbs.1 b bs[b] (List.getElem?_eq_getElem hb)
        rw [hg]
        exact hp1.le b g hg
      have hsee : Seen nb K ρ0 w0 (ownRho l1 ρf) w1 := by
        refine ⟨fun b hb => ?_, fun b s hb hs => ?_, hfr _ _ _ _ _ hp1 hkp⟩
        · obtain ⟨s, h1, h2⟩ := hse.old b hb
          refine ⟨s, h1, ?_⟩
          unfold ownRho
          rw [hat b hb]
          show ρf b = some s
          rw [hold b (by omega)]
          exact h2
        · unfold ownRho at hs
          obtain ⟨d, hbd, hd⟩ := Option.bind_eq_some_iff.1 hs
          have hdn : nb ≤ d := by
            rcases Nat.lt_or_ge d nb with h | h
            · have h1 := hat d h
              obtain ⟨hb1, hb2⟩ := List.getElem?_eq_some_iff.1 hbd
              obtain ⟨hd1, hd2⟩ := List.getElem?_eq_some_iff.1 h1
              have := (List.getElem_inj (h₀ := hb1) (h₁ := hd1) hnd).1 (hb2.trans hd2.symm)
              omega
            · exact h
          rcases Nat.lt_or_ge d bs.length with hlt | hge
          · exact hse.new d s hdn (by rw [← hold d hlt]; exact hd)
          · rcases hp1.fresh (d - bs.length) s (by rwa [show bs.length + (d - bs.length) = d by omega]) with q | q | ⟨c', t, h1, h2, h3, h4⟩
            · exact .inl q
            · exact .inr (Nat.le_trans hse.fr.size q)
            · have := List.all_eq_true.1 hng _ (List.mem_of_getElem? h1)
              simp [notGone] at this
      have hlen : nb ≤ (bls.map (renB (thereM l1))).length := by
        rw [List.length_map, g3]
        rcases Nat.eq_zero_or_pos nb with h | h
        · omega
        · have := (List.getElem?_eq_some_iff.1 (hat (nb - 1) (by omega))).1
          omega
      have ih := runT_rounds hm ls ρ0 w0 n _ _ hrun hlen (ownRho l1 ρf) a1 w1 hs1.defers hsz1 g1 g2 hsee
      refine rounds_mono ?_ n a1 w1 ih
      rintro e2 a2 w2 ⟨rfl, ρ', k1, k2, k3, k4, k5, k6⟩
      exact ⟨rfl, ρ', k1, k2, k3, fun t ht => by rw [k4 t ht, hk t ht], by rw [k5, hsz1, hsz], by rw [k6, hs1.defers, hd]⟩
/-- What is written at the end. -/
def toldU (K : List Nat) (bF : List Blk) (nb : Nat) : List (Option (Option Blk)) := (List.range nb).map fun b => if K.contains b then none else some bF[b]?
omit [Glob] in
theorem toldU_get {K : List Nat} {bF : List Blk} {nb b : Nat} {x : Option Blk} (h : (toldU K bF nb)[b]? = some (some x)) : b < nb ∧ K.contains b = false ∧ x = bF[b]? := by
  unfold toldU at h
  rw [List.getElem?_map] at h
  obtain ⟨d, hd, he⟩ := Option.map_eq_some_iff.1 h
  obtain ⟨hlt, hd⟩ := List.getElem?_eq_some_iff.1 hd
  simp only [List.length_range] at hlt
  simp only [List.getElem_range] at hd
  subst hd
  split at he
  · cases he
  · rename_i hc
    cases he
    exact ⟨hlt, by simpa using hc, rfl⟩
omit [Glob] in
theorem toldU_at {K : List Nat} {bF : List Blk} {nb b : Nat} (h : b < nb) (hk : K.contains b = false) : (toldU K bF nb)[b]? = some (some bF[b]?) := by
  unfold toldU
  rw [List.getElem?_map, List.getElem?_range h]
  simp only [Option.map_some, hk]
  rfl
/-- A loop of which all blocks are told at its end. -/
theorem loop_okT (K : List Nat) (hm : P.follows .mixedOrders = true) {c : Code} (ls : LSpec)
    (h : ∀ vals bs r, (ls.f vals bs).den = some r → ∃ bF n, r.upd = toldU K bF bs.length ∧ r.new = bF.drop bs.length ∧ bs.length ≤ bF.length ∧ (bF.drop bs.length).all (fun bl => !isLook bl) = true ∧ RunT P bs.length K ls.nt ls.live ls.outs c n vals bs r.e r.vs bF) : LoopOK P c ls := by
  intro vals bs r hr ρ a w hd hsz hv hbs
  obtain ⟨bF, n, h1, h2, h3, h4, hn⟩ := h vals bs r hr
  have hlt : ∀ b g, ρ b = some g → b < bs.length := by
    intro b g hg
    rcases Nat.lt_or_ge b bs.length with h | h
    · exact h
    · rw [hbs.2.2.1 b h] at hg; cases hg
  have hs0 : Seen bs.length K ρ w ρ w := by
    refine ⟨fun b hb => ?_, fun b s hb hs => ?_, Fr.refl _ _ _⟩
    · obtain ⟨g, hg, _⟩ := hbs.1 b bs[b] (List.getElem?_eq_getElem hb)
      exact ⟨g, hg, hg⟩
    · have := hlt b s hs
      omega
  refine wp_loop_rounds n (rounds_mono ?_ n a w (runT_rounds hm ls ρ w n vals bs hn (Nat.le_refl _) ρ a w hd hsz hv hbs hs0))
  rintro ex a' w' ⟨rfl, ρ', k1, k2, k3, k4, k5, k6⟩
  refine ⟨rfl, ρ', ?_, k4, k5, k6⟩
  obtain ⟨e, vs, u, nw⟩ := r
  simp only at h1 h2 k3
  subst h1 h2
  have hdom : ∀ b s, ρ' b = some s → b < bF.length := by
    intro b s hb
    rcases Nat.lt_or_ge b bF.length with h | h
    · exact h
    · rw [k1.2.2.1 b h] at hb; cases hb
  refine ⟨fun b s hb => ?_, fun b s hb => ?_, ?_, ?_, ?_, ?_, ?_, ?_⟩
  · obtain ⟨g, h0, h1⟩ := k2.old b (hlt b s hb)
    rw [hb] at h0; cases h0
    exact h1
  · have := hdom b s hb
    simp only [List.length_drop]
    omega
  · simp only [VRel]
    exact ⟨_, rfl, by simpa using k3⟩
  · intro b x hb
    obtain ⟨hb1, _, rfl⟩ := toldU_get hb
    obtain ⟨s, hs, hr⟩ := k1.1 b bF[b] (List.getElem?_eq_getElem (by omega))
    exact .inr ⟨bF[b], s, List.getElem?_eq_getElem (by omega), hs, hr⟩
  · intro j bl hj
    simp only [List.getElem?_drop] at hj
    exact k1.1 _ bl hj
  · exact k2.fr.weaken fun b hb => ⟨_, toldU_at hb.1 hb.2⟩
  · intro j s hj
    rcases k2.new _ s (by omega) hj with q | q
    · exact .inl q
    · exact .inr (.inl q)
  · intro i j s t hi hj r1 r2 he
    have hni : lookO bF[bs.length + i]? = false := by
      have hi' := hdom _ _ hi
      rw [List.getElem?_eq_getElem hi']
      have := List.all_eq_true.1 h4 bF[bs.length + i] (List.mem_of_getElem? (i := i) (by rw [List.getElem?_drop]; exact List.getElem?_eq_getElem hi'))
      simpa [lookO] using this
    have := k1.2.1 _ _ s t hi hj (by rw [hni]; rfl) r1 r2 he
    omega
end
end Go.Rx
