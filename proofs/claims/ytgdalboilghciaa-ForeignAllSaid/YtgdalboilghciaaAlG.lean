/- Layer 8: the reference: who was heard often; rows that are the same. The conditions stand in the specifications. -/
import Derived.Test.YtgdalboilghciaaFoE
import Derived.Test.YtgdalboilghciaaRxD
import Derived.Test.YtgdalboilghciaaAlB
set_option linter.unusedSimpArgs false
set_option linter.unusedVariables false
set_option linter.unnecessarySimpa false
set_option linter.unusedSectionVars false
set_option maxRecDepth 100000
set_option linter.unusedSimpArgs false
set_option linter.unusedVariables false
namespace Go.Proofs.Ytgdalboilghciaa
open Go.Rx
def rowQ (r : List V) : Ste := ⟨(V.toInt (r.getD 0 V.any)), (V.toInt (r.getD 1 V.any)), ⟨(V.toInt (r.getD 2 V.any)), (V.toInt (r.getD 3 V.any)), (V.toInt (r.getD 4 V.any))⟩, ⟨(V.toInt (r.getD 5 V.any)), (V.toInt (r.getD 6 V.any)), (V.toInt (r.getD 7 V.any)), (V.toInt (r.getD 8 V.any)), (V.toInt (r.getD 9 V.any)), (V.toInt (r.getD 10 V.any)), (V.toInt (r.getD 11 V.any)), (V.toInt (r.getD 12 V.any))⟩, (V.toInt (r.getD 13 V.any)), ⟨⟨(V.toInt (r.getD 14 V.any)), (V.toInt (r.getD 15 V.any)), (V.toInt (r.getD 16 V.any)), (V.toInt (r.getD 17 V.any)), (V.toInt (r.getD 18 V.any)), (V.toInt (r.getD 19 V.any)), (V.toInt (r.getD 20 V.any)), (V.toInt (r.getD 21 V.any))⟩, (V.toInt (r.getD 22 V.any))⟩, ⟨⟨(V.toInt (r.getD 23 V.any)), (V.toInt (r.getD 24 V.any)), (V.toInt (r.getD 25 V.any)), (V.toInt (r.getD 26 V.any)), (V.toInt (r.getD 27 V.any)), (V.toInt (r.getD 28 V.any)), (V.toInt (r.getD 29 V.any)), (V.toInt (r.getD 30 V.any))⟩, (V.toInt (r.getD 31 V.any))⟩⟩
abbrev smV (n : Nat) (i : Int) : List V := [.sl 0 0 0 32 n none, .sl 1 0 0 32 n none, .int .i64 i]
noncomputable abbrev smRd (vals : List V) (bs : List Blk) : Tree LRes := evRound P (specsOf []) (loopsOf []) 26 [0, 1, 5] [4] (loopAt Try.f18 0) vals bs
def smE : LRes := ⟨.exit 0, [.any], [none, none], []⟩
def smT (n : Nat) (i : Int) (rs : List (List V)) : Tree LRes :=
  .ite (decide (i < (n : Int))) (.ite (decide (0 ≤ i) && decide (i < (n : Int))) (.ite (decide (0 + i.toNat < rs.length)) (.ite (decide (0 ≤ i) && decide (i < (n : Int))) (.ite (decide (0 + i.toNat < rs.length))
    (.ite (!((rowQ (rs.getD (0 + i.toNat) [])).eqB (rowQ (rs.getD (0 + i.toNat) [])))) (.leaf ⟨.ret, [.fls], [none, none], []⟩) (.leaf ⟨.nrm, smV n (IntKind.i64.wrap (i + 1)), [none, none], []⟩)) .fail) .fail) .fail) .fail) (.leaf smE)
theorem sm_nf (n : Nat) (i : Int) (rs : List (List V)) : (smRd (smV n i) [.rows stK rs, .rows stK rs]).den = (smT n i rs).den := by
  kernel_rfl
noncomputable abbrev smN (f : Nat) (vals : List V) (bs : List Blk) : Tree LRes := loopN P (specsOf []) (loopsOf []) 26 [0, 1, 5] [4] (loopAt Try.f18 0) f vals bs
theorem sm_all (l : List Ste) (hl : l.length ≤ 1000) : ∀ (d k : Nat), k + d = l.length → ∃ f, (smN f (smV l.length k) [.rows stK (l.map Ste.vs), .rows stK (l.map Ste.vs)]).den = some smE := by
  intro d
  induction d with
  | zero =>
    intro k hk
    have hx := sm_nf l.length k (l.map Ste.vs)
    unfold smT at hx
    rw [decide_eq_false (show ¬ ((k : Nat) : Int) < (l.length : Int) by omega)] at hx
    exact ⟨1, loopN_end hx (by show Ex.exit 0 ≠ Ex.nrm; decide)⟩
  | succ d ih =>
    intro k hk
    have hx := sm_nf l.length k (l.map Ste.vs)
    unfold smT at hx
    have wk : IntKind.i64.wrap (((k : Nat) : Int) + 1) = ((k + 1 : Nat) : Int) := by rw [wrap64_id (by omega) (by omega)]; omega
    rw [decide_eq_true (show ((k : Nat) : Int) < (l.length : Int) by omega), decide_eq_true (show (0 : Int) ≤ ((k : Nat) : Int) by omega), Ste.eqB_self, wk,
      decide_eq_true (show 0 + ((k : Nat) : Int).toNat < (l.map Ste.vs).length by rw [Int.toNat_natCast, List.length_map]; omega)] at hx
    obtain ⟨f, hf⟩ := ih (k + 1) (by omega)
    refine ⟨f + 1, ?_⟩
    refine loopN_step (r1 := ⟨.nrm, smV l.length (k + 1 : Nat), [none, none], []⟩) hx rfl (vals' := smV l.length (k + 1 : Nat)) (bs' := [.rows stK (l.map Ste.vs), .rows stK (l.map Ste.vs)]) (by kernel_rfl) (by kernel_rfl) (by kernel_rfl) hf ?_
    (show (seqAfter _ _ _).den = some _; kernel_rfl)
noncomputable def smLf (l : List Ste) (vals : List V) (bs : List Blk) : Tree LRes := .need (eqAB vals (smV l.length 0) bs [.rows stK (l.map Ste.vs), .rows stK (l.map Ste.vs)]) (.leaf smE)
noncomputable abbrev smLs (l : List Ste) : LSpec := ⟨26, [0, 1, 5], [4], smLf l⟩
theorem sm_loop (l : List Ste) (hl : l.length ≤ 1000) : LoopOK P (loopAt Try.f18 0) (smLs l) := by
  refine loop_ok (GammaOK.nil P) hm (Λ := loopsOf []) (LoopsOK.nil (by kernel_rfl)) _ ?_
  intro vals bs r h
  change (smLf l vals bs).den = some r at h
  unfold smLf at h
  rw [den_need, denLf] at h
  obtain ⟨he, h⟩ := h
  have he : vals = smV l.length 0 ∧ bs = [.rows stK (l.map Ste.vs), .rows stK (l.map Ste.vs)] := by
    unfold eqAB at he
    exact @of_decide_eq_true _ (Classical.propDecidable _) he
  obtain ⟨rfl, rfl⟩ := he
  cases h
  exact sm_all l hl l.length 0 (by omega)
theorem smF_nf (l : List Ste) (n : Nat) (rs : List (List V)) : Tree.denN (fFn P (specsOf []) (loopsOf [(4, smLs l)]) Try.f18 [.sl 0 0 0 32 n none, .sl 1 0 0 32 n none] [.rows stK rs, .rows stK rs]) = Tree.denN (.ite ((n : Int) != (n : Int)) (.leaf ⟨.fls, [none, none], []⟩) (.ite (eqAB (smV n 0) (smV l.length 0) [.rows stK rs, .rows stK rs] [.rows stK (l.map Ste.vs), .rows stK (l.map Ste.vs)]) (.leaf ⟨.tru, [none, none], []⟩) .fail)) := by
  kernel_rfl
/-- Rows that are the same are told so. -/
theorem sm_ans (l : List Ste) (hl : l.length ≤ 1000) : ∃ s, SpecOK P 18 s ∧ (s [.sl 0 0 0 32 l.length none, .sl 1 0 0 32 l.length none] [.rows stK (l.map Ste.vs), .rows stK (l.map Ste.vs)]).denN = some (Res.nrm ⟨.tru, [none, none], []⟩) := by
  refine ⟨fFn P (specsOf []) (loopsOf [(4, smLs l)]) Try.f18, inl_ok (GammaOK.nil P) hm Try.func18 (by kernel_rfl) (LoopsOK.one (by kernel_rfl) (sm_loop l hl)), ?_⟩
  refine (smF_nf l l.length (l.map Ste.vs)).trans ?_
  rw [eqAB_self, bne_self_eq_false]
  rfl
end Go.Proofs.Ytgdalboilghciaa

set_option maxRecDepth 100000
set_option linter.unusedSimpArgs false
set_option linter.unusedVariables false
namespace Go.Proofs.Ytgdalboilghciaa
open Go.Rx
abbrev rqV (now : Int) (m : Nat) (i : Int) : List V := [.int .i64 now, .ptr 0 0 0 0, .sl 1 0 0 32 m none, .int .i64 i]
def rqB (own : Ck) (ev : Int) (qs : List (List V)) (es : RTab) : List Blk := Body.cells (own.vs ++ [.int .i64 ev, outL 2 (idsF 3 es)]) :: Body.rows stK qs :: (outB (idsF 3 es) ++ tsB es)
noncomputable abbrev rqRd (vals : List V) (bs : List Blk) : Tree LRes := evRound P (specsOf []) (loopsOf []) 80 [1, 2, 5, 6] [5] (loopAt Try.f19 0) vals bs
noncomputable abbrev rqLN (f : Nat) (vals : List V) (bs : List Blk) : Tree LRes := loopN P (specsOf []) (loopsOf []) 80 [1, 2, 5, 6] [5] (loopAt Try.f19 0) f vals bs
def rqN (e : RefE) (k : Int) (T : Tree LRes) : Tree LRes := .ite (decide (0 ≤ IntKind.i64.wrap ((e.len : Int) - k)) && decide (IntKind.i64.wrap ((e.len : Int) - k) < (e.len : Int))) (.ite (decide (0 + (IntKind.i64.wrap ((e.len : Int) - k)).toNat + 1 ≤ e.ts.length)) T .fail) .fail
def rqG (e : RefE) (k : Int) : Int := e.ts.getD (0 + (IntKind.i64.wrap ((e.len : Int) - k)).toNat + 0) 0
def rqQ (m : Nat) (qs : List (List V)) (e : RefE) : List (List V) := List.take m (List.drop 0 qs) ++ [e.s.vs]
def rqL0 (n : Nat) (now : Int) (m : Nat) (i : Int) : LRes := ⟨.nrm, rqV now m (i + 1), List.replicate (n + 3) none, []⟩
def rqL1 (n : Nat) (now : Int) (len : Nat) (Q : List (List V)) (i : Int) : LRes := ⟨.nrm, [.int .i64 now, .ptr 0 0 0 0, .sl (n + 3) 0 0 32 len none, .int .i64 (i + 1)], none :: some none :: List.replicate (n + 1) none, [.rows stK Q]⟩
def rqW (ev now : Int) : Int := IntKind.i64.wrap (now - IntKind.i64.wrap (4 * ev))
def rqT (n : Nat) (ev now : Int) (m : Nat) (qs : List (List V)) (e : RefE) (i : Int) : Tree LRes :=
  .ite (decide ((e.len : Int) ≥ 2)) (rqN e 1 (.ite (decide (rqG e 1 ≤ now)) (rqN e 2 (.ite (decide (rqG e 2 ≤ now)) (rqN e 1 (.ite (decide (rqG e 1 > rqW ev now)) (rqN e 2 (.ite (decide (rqG e 2 > rqW ev now))
    (.ite (decide (0 + m ≤ qs.length) && true) (.ite (decide ((rqQ m qs e).length * 88 ≤ 140737488355328)) (.leaf (rqL1 n now (rqQ m qs e).length (rqQ m qs e) i)) .fail) .fail)
    (.leaf (rqL0 n now m i)))) (.leaf (rqL0 n now m i)))) (.leaf (rqL0 n now m i)))) (.leaf (rqL0 n now m i)))) (.leaf (rqL0 n now m i))
theorem rqx_0 (own : Ck) (ev now : Int) (m : Nat) (qs : List (List V))  : (rqRd (rqV now m 0) (rqB own ev qs [])).den = some ⟨.exit 0, [.sl 1 0 0 32 m none], List.replicate 2 none, []⟩ := by
  kernel_rfl
theorem rqr_1_0 (own : Ck) (ev now : Int) (m : Nat) (qs : List (List V)) (a0 : RefE) : (rqRd (rqV now m 0) (rqB own ev qs [a0])).den = (rqT 1 ev now m qs a0 0).den := by
  kernel_rfl
theorem rqx_1 (own : Ck) (ev now : Int) (m : Nat) (qs : List (List V)) (a0 : RefE) : (rqRd (rqV now m 1) (rqB own ev qs [a0])).den = some ⟨.exit 0, [.sl 1 0 0 32 m none], List.replicate 4 none, []⟩ := by
  kernel_rfl
theorem rqr_2_0 (own : Ck) (ev now : Int) (m : Nat) (qs : List (List V)) (a0 a1 : RefE) : (rqRd (rqV now m 0) (rqB own ev qs [a0, a1])).den = (rqT 2 ev now m qs a0 0).den := by
  kernel_rfl
theorem rqr_2_1 (own : Ck) (ev now : Int) (m : Nat) (qs : List (List V)) (a0 a1 : RefE) : (rqRd (rqV now m 1) (rqB own ev qs [a0, a1])).den = (rqT 2 ev now m qs a1 1).den := by
  kernel_rfl
theorem rqx_2 (own : Ck) (ev now : Int) (m : Nat) (qs : List (List V)) (a0 a1 : RefE) : (rqRd (rqV now m 2) (rqB own ev qs [a0, a1])).den = some ⟨.exit 0, [.sl 1 0 0 32 m none], List.replicate 5 none, []⟩ := by
  kernel_rfl
theorem rqr_3_0 (own : Ck) (ev now : Int) (m : Nat) (qs : List (List V)) (a0 a1 a2 : RefE) : (rqRd (rqV now m 0) (rqB own ev qs [a0, a1, a2])).den = (rqT 3 ev now m qs a0 0).den := by
  kernel_rfl
theorem rqr_3_1 (own : Ck) (ev now : Int) (m : Nat) (qs : List (List V)) (a0 a1 a2 : RefE) : (rqRd (rqV now m 1) (rqB own ev qs [a0, a1, a2])).den = (rqT 3 ev now m qs a1 1).den := by
  kernel_rfl
theorem rqr_3_2 (own : Ck) (ev now : Int) (m : Nat) (qs : List (List V)) (a0 a1 a2 : RefE) : (rqRd (rqV now m 2) (rqB own ev qs [a0, a1, a2])).den = (rqT 3 ev now m qs a2 2).den := by
  kernel_rfl
theorem rqx_3 (own : Ck) (ev now : Int) (m : Nat) (qs : List (List V)) (a0 a1 a2 : RefE) : (rqRd (rqV now m 3) (rqB own ev qs [a0, a1, a2])).den = some ⟨.exit 0, [.sl 1 0 0 32 m none], List.replicate 6 none, []⟩ := by
  kernel_rfl
theorem rqr_4_0 (own : Ck) (ev now : Int) (m : Nat) (qs : List (List V)) (a0 a1 a2 a3 : RefE) : (rqRd (rqV now m 0) (rqB own ev qs [a0, a1, a2, a3])).den = (rqT 4 ev now m qs a0 0).den := by
  kernel_rfl
theorem rqr_4_1 (own : Ck) (ev now : Int) (m : Nat) (qs : List (List V)) (a0 a1 a2 a3 : RefE) : (rqRd (rqV now m 1) (rqB own ev qs [a0, a1, a2, a3])).den = (rqT 4 ev now m qs a1 1).den := by
  kernel_rfl
theorem rqr_4_2 (own : Ck) (ev now : Int) (m : Nat) (qs : List (List V)) (a0 a1 a2 a3 : RefE) : (rqRd (rqV now m 2) (rqB own ev qs [a0, a1, a2, a3])).den = (rqT 4 ev now m qs a2 2).den := by
  kernel_rfl
theorem rqr_4_3 (own : Ck) (ev now : Int) (m : Nat) (qs : List (List V)) (a0 a1 a2 a3 : RefE) : (rqRd (rqV now m 3) (rqB own ev qs [a0, a1, a2, a3])).den = (rqT 4 ev now m qs a3 3).den := by
  kernel_rfl
theorem rqx_4 (own : Ck) (ev now : Int) (m : Nat) (qs : List (List V)) (a0 a1 a2 a3 : RefE) : (rqRd (rqV now m 4) (rqB own ev qs [a0, a1, a2, a3])).den = some ⟨.exit 0, [.sl 1 0 0 32 m none], List.replicate 7 none, []⟩ := by
  kernel_rfl
theorem rqr_5_0 (own : Ck) (ev now : Int) (m : Nat) (qs : List (List V)) (a0 a1 a2 a3 a4 : RefE) : (rqRd (rqV now m 0) (rqB own ev qs [a0, a1, a2, a3, a4])).den = (rqT 5 ev now m qs a0 0).den := by
  kernel_rfl
theorem rqr_5_1 (own : Ck) (ev now : Int) (m : Nat) (qs : List (List V)) (a0 a1 a2 a3 a4 : RefE) : (rqRd (rqV now m 1) (rqB own ev qs [a0, a1, a2, a3, a4])).den = (rqT 5 ev now m qs a1 1).den := by
  kernel_rfl
theorem rqr_5_2 (own : Ck) (ev now : Int) (m : Nat) (qs : List (List V)) (a0 a1 a2 a3 a4 : RefE) : (rqRd (rqV now m 2) (rqB own ev qs [a0, a1, a2, a3, a4])).den = (rqT 5 ev now m qs a2 2).den := by
  kernel_rfl
theorem rqr_5_3 (own : Ck) (ev now : Int) (m : Nat) (qs : List (List V)) (a0 a1 a2 a3 a4 : RefE) : (rqRd (rqV now m 3) (rqB own ev qs [a0, a1, a2, a3, a4])).den = (rqT 5 ev now m qs a3 3).den := by
  kernel_rfl
theorem rqr_5_4 (own : Ck) (ev now : Int) (m : Nat) (qs : List (List V)) (a0 a1 a2 a3 a4 : RefE) : (rqRd (rqV now m 4) (rqB own ev qs [a0, a1, a2, a3, a4])).den = (rqT 5 ev now m qs a4 4).den := by
  kernel_rfl
theorem rqx_5 (own : Ck) (ev now : Int) (m : Nat) (qs : List (List V)) (a0 a1 a2 a3 a4 : RefE) : (rqRd (rqV now m 5) (rqB own ev qs [a0, a1, a2, a3, a4])).den = some ⟨.exit 0, [.sl 1 0 0 32 m none], List.replicate 8 none, []⟩ := by
  kernel_rfl
/-- Was it heard often? -/
def rqC (ev now : Int) (e : RefE) : Bool := decide (2 ≤ e.ts.length) && (decide (lastT e.ts ≤ now) && (decide (e.ts.getD (e.ts.length - 2) 0 ≤ now) && (decide (lastT e.ts > rqW ev now) && decide (e.ts.getD (e.ts.length - 2) 0 > rqW ev now))))
theorem rqT_den {n : Nat} {ev now : Int} {q : List Ste} {e : RefE} {i : Int} (hq : q.length ≤ 1000) (h1 : e.len = e.ts.length) (h2 : e.len ≤ 1000000) : (rqT n ev now q.length (q.map Ste.vs) e i).den = some (match rqC ev now e with | true => rqL1 n now (q ++ [e.s]).length ((q ++ [e.s]).map Ste.vs) i | false => rqL0 n now q.length i) := by
  have hQ : rqQ q.length (q.map Ste.vs) e = (q ++ [e.s]).map Ste.vs := by
    unfold rqQ
    rw [List.drop_zero, List.take_of_length_le (by simp)]
    simp
  unfold rqT
  rw [hQ, decide_eq_true (show 0 + q.length ≤ (q.map Ste.vs).length by simp), decide_eq_true (show ((q ++ [e.s]).map Ste.vs).length * 88 ≤ 140737488355328 by simp; omega), List.length_map]
  unfold rqC
  cases c0 : decide (2 ≤ e.ts.length) with
  | false =>
    rw [decide_eq_false (show ¬ (e.len : Int) ≥ 2 by simp only [decide_eq_false_iff_not] at c0; omega)]
    rfl
  | true =>
    simp only [decide_eq_true_eq] at c0
    have w1 : IntKind.i64.wrap ((e.len : Int) - 1) = ((e.len - 1 : Nat) : Int) := by rw [wrap64_id (by omega) (by omega)]; omega
    have w2 : IntKind.i64.wrap ((e.len : Int) - 2) = ((e.len - 2 : Nat) : Int) := by rw [wrap64_id (by omega) (by omega)]; omega
    have g1 : rqG e 1 = lastT e.ts := by
      unfold rqG lastT
      rw [w1, Int.toNat_natCast, h1, Nat.zero_add, Nat.add_zero]
    have g2 : rqG e 2 = e.ts.getD (e.ts.length - 2) 0 := by
      unfold rqG
      rw [w2, Int.toNat_natCast, h1, Nat.zero_add, Nat.add_zero]
    have n1 : ∀ T, rqN e 1 T = .ite true (.ite true T .fail) .fail := fun T => by
      unfold rqN
      rw [w1, decide_eq_true (show (0 : Int) ≤ ((e.len - 1 : Nat) : Int) by omega), decide_eq_true (show ((e.len - 1 : Nat) : Int) < (e.len : Int) by omega), decide_eq_true (show 0 + (((e.len - 1 : Nat) : Int)).toNat + 1 ≤ e.ts.length by rw [Int.toNat_natCast]; omega)]
      rfl
    have n2 : ∀ T, rqN e 2 T = .ite true (.ite true T .fail) .fail := fun T => by
      unfold rqN
      rw [w2, decide_eq_true (show (0 : Int) ≤ ((e.len - 2 : Nat) : Int) by omega), decide_eq_true (show ((e.len - 2 : Nat) : Int) < (e.len : Int) by omega), decide_eq_true (show 0 + (((e.len - 2 : Nat) : Int)).toNat + 1 ≤ e.ts.length by rw [Int.toNat_natCast]; omega)]
      rfl
    rw [decide_eq_true (show (e.len : Int) ≥ 2 by omega), n1, n2, n1, n2, g1, g2]
    cases decide (lastT e.ts ≤ now) with
    | false => rfl
    | true =>
      cases decide (e.ts.getD (e.ts.length - 2) 0 ≤ now) with
      | false => rfl
      | true =>
        cases decide (lastT e.ts > rqW ev now) with
        | false => rfl
        | true => cases decide (e.ts.getD (e.ts.length - 2) 0 > rqW ev now) <;> rfl
def rqF (ev now : Int) (es : RTab) : List Ste := (es.filter (rqC ev now)).map fun e => e.s
def resR (n m : Nat) (tot : List Ste) : Bool → LRes
  | false => ⟨.exit 0, [.sl 1 0 0 32 m none], List.replicate (if n = 0 then 2 else n + 3) none, []⟩
  | true => ⟨.exit 0, [.sl (n + 3) 0 0 32 tot.length none], none :: some none :: List.replicate (n + 1) none, [.rows stK (tot.map Ste.vs)]⟩
theorem rqa_0_0 (own : Ck) (ev now : Int) (q : List Ste) (hq : q.length ≤ 0)   : ∃ f, (rqLN f (rqV now q.length 0) (rqB own ev (q.map Ste.vs) [])).den = some (resR 0 q.length (q ++ rqF ev now []) (!(rqF ev now []).isEmpty)) := by
  exact ⟨1, loopN_end (rqx_0 own ev now q.length (q.map Ste.vs) ) (by show Ex.exit 0 ≠ Ex.nrm; decide)⟩
theorem rqa_1_1 (own : Ck) (ev now : Int) (q : List Ste) (hq : q.length ≤ 1) (a0 : RefE) (h0 : a0.len = a0.ts.length ∧ a0.len ≤ 1000000) : ∃ f, (rqLN f (rqV now q.length 1) (rqB own ev (q.map Ste.vs) [a0])).den = some (resR 1 q.length (q ++ rqF ev now []) (!(rqF ev now []).isEmpty)) := by
  exact ⟨1, loopN_end (rqx_1 own ev now q.length (q.map Ste.vs) a0) (by show Ex.exit 0 ≠ Ex.nrm; decide)⟩
theorem rqa_1_0 (own : Ck) (ev now : Int) (q : List Ste) (hq : q.length ≤ 0) (a0 : RefE) (h0 : a0.len = a0.ts.length ∧ a0.len ≤ 1000000) : ∃ f, (rqLN f (rqV now q.length 0) (rqB own ev (q.map Ste.vs) [a0])).den = some (resR 1 q.length (q ++ rqF ev now [a0]) (!(rqF ev now [a0]).isEmpty)) := by
  have st := (rqr_1_0 own ev now q.length (q.map Ste.vs) a0).trans (rqT_den (n := 1) (i := 0) (by omega) h0.1 h0.2)
  cases hc : rqC ev now a0 with
  | false =>
    rw [hc] at st
    obtain ⟨f, hf⟩ := rqa_1_1 own ev now q (by omega) a0 h0
    have hF : rqF ev now [a0] = rqF ev now [] := by
      unfold rqF
      rw [List.filter_cons_of_neg (by rw [hc]; simp)]
    rw [hF]
    refine ⟨f + 1, loopN_step st rfl (vals' := rqV now q.length (1 : Int)) (bs' := rqB own ev (q.map Ste.vs) [a0]) (by kernel_rfl) (by kernel_rfl) (by kernel_rfl) hf ?_⟩
    generalize rqF ev now [] = F
    cases F with
    | nil => (show (seqAfter _ _ _).den = some _; kernel_rfl)
    | cons a b => (show (seqAfter _ _ _).den = some _; kernel_rfl)
  | true =>
    rw [hc] at st
    obtain ⟨f, hf⟩ := rqa_1_1 own ev now (q ++ [a0.s]) (by rw [List.length_append, List.length_singleton]; omega) a0 h0
    have hF : rqF ev now [a0] = a0.s :: rqF ev now [] := by
      unfold rqF
      rw [List.filter_cons_of_pos (by rw [hc]), List.map_cons]
    rw [hF]
    refine ⟨f + 1, loopN_step st rfl (vals' := rqV now (q ++ [a0.s]).length (1 : Int)) (bs' := rqB own ev ((q ++ [a0.s]).map Ste.vs) [a0]) (by kernel_rfl) (by kernel_rfl) (by kernel_rfl) hf ?_⟩
    generalize rqF ev now [] = F
    rw [show q ++ [a0.s] ++ F = q ++ a0.s :: F by simp]
    cases F with
    | nil => (show (seqAfter _ _ _).den = some _; kernel_rfl)
    | cons a b => (show (seqAfter _ _ _).den = some _; kernel_rfl)
theorem rqa_2_2 (own : Ck) (ev now : Int) (q : List Ste) (hq : q.length ≤ 2) (a0 a1 : RefE) (h0 : a0.len = a0.ts.length ∧ a0.len ≤ 1000000) (h1 : a1.len = a1.ts.length ∧ a1.len ≤ 1000000) : ∃ f, (rqLN f (rqV now q.length 2) (rqB own ev (q.map Ste.vs) [a0, a1])).den = some (resR 2 q.length (q ++ rqF ev now []) (!(rqF ev now []).isEmpty)) := by
  exact ⟨1, loopN_end (rqx_2 own ev now q.length (q.map Ste.vs) a0 a1) (by show Ex.exit 0 ≠ Ex.nrm; decide)⟩
theorem rqa_2_1 (own : Ck) (ev now : Int) (q : List Ste) (hq : q.length ≤ 1) (a0 a1 : RefE) (h0 : a0.len = a0.ts.length ∧ a0.len ≤ 1000000) (h1 : a1.len = a1.ts.length ∧ a1.len ≤ 1000000) : ∃ f, (rqLN f (rqV now q.length 1) (rqB own ev (q.map Ste.vs) [a0, a1])).den = some (resR 2 q.length (q ++ rqF ev now [a1]) (!(rqF ev now [a1]).isEmpty)) := by
  have st := (rqr_2_1 own ev now q.length (q.map Ste.vs) a0 a1).trans (rqT_den (n := 2) (i := 1) (by omega) h1.1 h1.2)
  cases hc : rqC ev now a1 with
  | false =>
    rw [hc] at st
    obtain ⟨f, hf⟩ := rqa_2_2 own ev now q (by omega) a0 a1 h0 h1
    have hF : rqF ev now [a1] = rqF ev now [] := by
      unfold rqF
      rw [List.filter_cons_of_neg (by rw [hc]; simp)]
    rw [hF]
    refine ⟨f + 1, loopN_step st rfl (vals' := rqV now q.length (2 : Int)) (bs' := rqB own ev (q.map Ste.vs) [a0, a1]) (by kernel_rfl) (by kernel_rfl) (by kernel_rfl) hf ?_⟩
    generalize rqF ev now [] = F
    cases F with
    | nil => (show (seqAfter _ _ _).den = some _; kernel_rfl)
    | cons a b => (show (seqAfter _ _ _).den = some _; kernel_rfl)
  | true =>
    rw [hc] at st
    obtain ⟨f, hf⟩ := rqa_2_2 own ev now (q ++ [a1.s]) (by rw [List.length_append, List.length_singleton]; omega) a0 a1 h0 h1
    have hF : rqF ev now [a1] = a1.s :: rqF ev now [] := by
      unfold rqF
      rw [List.filter_cons_of_pos (by rw [hc]), List.map_cons]
    rw [hF]
    refine ⟨f + 1, loopN_step st rfl (vals' := rqV now (q ++ [a1.s]).length (2 : Int)) (bs' := rqB own ev ((q ++ [a1.s]).map Ste.vs) [a0, a1]) (by kernel_rfl) (by kernel_rfl) (by kernel_rfl) hf ?_⟩
    generalize rqF ev now [] = F
    rw [show q ++ [a1.s] ++ F = q ++ a1.s :: F by simp]
    cases F with
    | nil => (show (seqAfter _ _ _).den = some _; kernel_rfl)
    | cons a b => (show (seqAfter _ _ _).den = some _; kernel_rfl)
theorem rqa_2_0 (own : Ck) (ev now : Int) (q : List Ste) (hq : q.length ≤ 0) (a0 a1 : RefE) (h0 : a0.len = a0.ts.length ∧ a0.len ≤ 1000000) (h1 : a1.len = a1.ts.length ∧ a1.len ≤ 1000000) : ∃ f, (rqLN f (rqV now q.length 0) (rqB own ev (q.map Ste.vs) [a0, a1])).den = some (resR 2 q.length (q ++ rqF ev now [a0, a1]) (!(rqF ev now [a0, a1]).isEmpty)) := by
  have st := (rqr_2_0 own ev now q.length (q.map Ste.vs) a0 a1).trans (rqT_den (n := 2) (i := 0) (by omega) h0.1 h0.2)
  cases hc : rqC ev now a0 with
  | false =>
    rw [hc] at st
    obtain ⟨f, hf⟩ := rqa_2_1 own ev now q (by omega) a0 a1 h0 h1
    have hF : rqF ev now [a0, a1] = rqF ev now [a1] := by
      unfold rqF
      rw [List.filter_cons_of_neg (by rw [hc]; simp)]
    rw [hF]
    refine ⟨f + 1, loopN_step st rfl (vals' := rqV now q.length (1 : Int)) (bs' := rqB own ev (q.map Ste.vs) [a0, a1]) (by kernel_rfl) (by kernel_rfl) (by kernel_rfl) hf ?_⟩
    generalize rqF ev now [a1] = F
    cases F with
    | nil => (show (seqAfter _ _ _).den = some _; kernel_rfl)
    | cons a b => (show (seqAfter _ _ _).den = some _; kernel_rfl)
  | true =>
    rw [hc] at st
    obtain ⟨f, hf⟩ := rqa_2_1 own ev now (q ++ [a0.s]) (by rw [List.length_append, List.length_singleton]; omega) a0 a1 h0 h1
    have hF : rqF ev now [a0, a1] = a0.s :: rqF ev now [a1] := by
      unfold rqF
      rw [List.filter_cons_of_pos (by rw [hc]), List.map_cons]
    rw [hF]
    refine ⟨f + 1, loopN_step st rfl (vals' := rqV now (q ++ [a0.s]).length (1 : Int)) (bs' := rqB own ev ((q ++ [a0.s]).map Ste.vs) [a0, a1]) (by kernel_rfl) (by kernel_rfl) (by kernel_rfl) hf ?_⟩
    generalize rqF ev now [a1] = F
    rw [show q ++ [a0.s] ++ F = q ++ a0.s :: F by simp]
    cases F with
    | nil => (show (seqAfter _ _ _).den = some _; kernel_rfl)
    | cons a b => (show (seqAfter _ _ _).den = some _; kernel_rfl)
theorem rqa_3_3 (own : Ck) (ev now : Int) (q : List Ste) (hq : q.length ≤ 3) (a0 a1 a2 : RefE) (h0 : a0.len = a0.ts.length ∧ a0.len ≤ 1000000) (h1 : a1.len = a1.ts.length ∧ a1.len ≤ 1000000) (h2 : a2.len = a2.ts.length ∧ a2.len ≤ 1000000) : ∃ f, (rqLN f (rqV now q.length 3) (rqB own ev (q.map Ste.vs) [a0, a1, a2])).den = some (resR 3 q.length (q ++ rqF ev now []) (!(rqF ev now []).isEmpty)) := by
  exact ⟨1, loopN_end (rqx_3 own ev now q.length (q.map Ste.vs) a0 a1 a2) (by show Ex.exit 0 ≠ Ex.nrm; decide)⟩
theorem rqa_3_2 (own : Ck) (ev now : Int) (q : List Ste) (hq : q.length ≤ 2) (a0 a1 a2 : RefE) (h0 : a0.len = a0.ts.length ∧ a0.len ≤ 1000000) (h1 : a1.len = a1.ts.length ∧ a1.len ≤ 1000000) (h2 : a2.len = a2.ts.length ∧ a2.len ≤ 1000000) : ∃ f, (rqLN f (rqV now q.length 2) (rqB own ev (q.map Ste.vs) [a0, a1, a2])).den = some (resR 3 q.length (q ++ rqF ev now [a2]) (!(rqF ev now [a2]).isEmpty)) := by
  have st := (rqr_3_2 own ev now q.length (q.map Ste.vs) a0 a1 a2).trans (rqT_den (n := 3) (i := 2) (by omega) h2.1 h2.2)
  cases hc : rqC ev now a2 with
  | false =>
    rw [hc] at st
    obtain ⟨f, hf⟩ := rqa_3_3 own ev now q (by omega) a0 a1 a2 h0 h1 h2
    have hF : rqF ev now [a2] = rqF ev now [] := by
      unfold rqF
      rw [List.filter_cons_of_neg (by rw [hc]; simp)]
    rw [hF]
    refine ⟨f + 1, loopN_step st rfl (vals' := rqV now q.length (3 : Int)) (bs' := rqB own ev (q.map Ste.vs) [a0, a1, a2]) (by kernel_rfl) (by kernel_rfl) (by kernel_rfl) hf ?_⟩
    generalize rqF ev now [] = F
    cases F with
    | nil => (show (seqAfter _ _ _).den = some _; kernel_rfl)
    | cons a b => (show (seqAfter _ _ _).den = some _; kernel_rfl)
  | true =>
    rw [hc] at st
    obtain ⟨f, hf⟩ := rqa_3_3 own ev now (q ++ [a2.s]) (by rw [List.length_append, List.length_singleton]; omega) a0 a1 a2 h0 h1 h2
    have hF : rqF ev now [a2] = a2.s :: rqF ev now [] := by
      unfold rqF
      rw [List.filter_cons_of_pos (by rw [hc]), List.map_cons]
    rw [hF]
    refine ⟨f + 1, loopN_step st rfl (vals' := rqV now (q ++ [a2.s]).length (3 : Int)) (bs' := rqB own ev ((q ++ [a2.s]).map Ste.vs) [a0, a1, a2]) (by kernel_rfl) (by kernel_rfl) (by kernel_rfl) hf ?_⟩
    generalize rqF ev now [] = F
    rw [show q ++ [a2.s] ++ F = q ++ a2.s :: F by simp]
    cases F with
    | nil => (show (seqAfter _ _ _).den = some _; kernel_rfl)
    | cons a b => (show (seqAfter _ _ _).den = some _; kernel_rfl)
theorem rqa_3_1 (own : Ck) (ev now : Int) (q : List Ste) (hq : q.length ≤ 1) (a0 a1 a2 : RefE) (h0 : a0.len = a0.ts.length ∧ a0.len ≤ 1000000) (h1 : a1.len = a1.ts.length ∧ a1.len ≤ 1000000) (h2 : a2.len = a2.ts.length ∧ a2.len ≤ 1000000) : ∃ f, (rqLN f (rqV now q.length 1) (rqB own ev (q.map Ste.vs) [a0, a1, a2])).den = some (resR 3 q.length (q ++ rqF ev now [a1, a2]) (!(rqF ev now [a1, a2]).isEmpty)) := by
  have st := (rqr_3_1 own ev now q.length (q.map Ste.vs) a0 a1 a2).trans (rqT_den (n := 3) (i := 1) (by omega) h1.1 h1.2)
  cases hc : rqC ev now a1 with
  | false =>
    rw [hc] at st
    obtain ⟨f, hf⟩ := rqa_3_2 own ev now q (by omega) a0 a1 a2 h0 h1 h2
    have hF : rqF ev now [a1, a2] = rqF ev now [a2] := by
      unfold rqF
      rw [List.filter_cons_of_neg (by rw [hc]; simp)]
    rw [hF]
    refine ⟨f + 1, loopN_step st rfl (vals' := rqV now q.length (2 : Int)) (bs' := rqB own ev (q.map Ste.vs) [a0, a1, a2]) (by kernel_rfl) (by kernel_rfl) (by kernel_rfl) hf ?_⟩
    generalize rqF ev now [a2] = F
    cases F with
    | nil => (show (seqAfter _ _ _).den = some _; kernel_rfl)
    | cons a b => (show (seqAfter _ _ _).den = some _; kernel_rfl)
  | true =>
    rw [hc] at st
    obtain ⟨f, hf⟩ := rqa_3_2 own ev now (q ++ [a1.s]) (by rw [List.length_append, List.length_singleton]; omega) a0 a1 a2 h0 h1 h2
    have hF : rqF ev now [a1, a2] = a1.s :: rqF ev now [a2] := by
      unfold rqF
      rw [List.filter_cons_of_pos (by rw [hc]), List.map_cons]
    rw [hF]
    refine ⟨f + 1, loopN_step st rfl (vals' := rqV now (q ++ [a1.s]).length (2 : Int)) (bs' := rqB own ev ((q ++ [a1.s]).map Ste.vs) [a0, a1, a2]) (by kernel_rfl) (by kernel_rfl) (by kernel_rfl) hf ?_⟩
    generalize rqF ev now [a2] = F
    rw [show q ++ [a1.s] ++ F = q ++ a1.s :: F by simp]
    cases F with
    | nil => (show (seqAfter _ _ _).den = some _; kernel_rfl)
    | cons a b => (show (seqAfter _ _ _).den = some _; kernel_rfl)
theorem rqa_3_0 (own : Ck) (ev now : Int) (q : List Ste) (hq : q.length ≤ 0) (a0 a1 a2 : RefE) (h0 : a0.len = a0.ts.length ∧ a0.len ≤ 1000000) (h1 : a1.len = a1.ts.length ∧ a1.len ≤ 1000000) (h2 : a2.len = a2.ts.length ∧ a2.len ≤ 1000000) : ∃ f, (rqLN f (rqV now q.length 0) (rqB own ev (q.map Ste.vs) [a0, a1, a2])).den = some (resR 3 q.length (q ++ rqF ev now [a0, a1, a2]) (!(rqF ev now [a0, a1, a2]).isEmpty)) := by
  have st := (rqr_3_0 own ev now q.length (q.map Ste.vs) a0 a1 a2).trans (rqT_den (n := 3) (i := 0) (by omega) h0.1 h0.2)
  cases hc : rqC ev now a0 with
  | false =>
    rw [hc] at st
    obtain ⟨f, hf⟩ := rqa_3_1 own ev now q (by omega) a0 a1 a2 h0 h1 h2
    have hF : rqF ev now [a0, a1, a2] = rqF ev now [a1, a2] := by
      unfold rqF
      rw [List.filter_cons_of_neg (by rw [hc]; simp)]
    rw [hF]
    refine ⟨f + 1, loopN_step st rfl (vals' := rqV now q.length (1 : Int)) (bs' := rqB own ev (q.map Ste.vs) [a0, a1, a2]) (by kernel_rfl) (by kernel_rfl) (by kernel_rfl) hf ?_⟩
    generalize rqF ev now [a1, a2] = F
    cases F with
    | nil => (show (seqAfter _ _ _).den = some _; kernel_rfl)
    | cons a b => (show (seqAfter _ _ _).den = some _; kernel_rfl)
  | true =>
    rw [hc] at st
    obtain ⟨f, hf⟩ := rqa_3_1 own ev now (q ++ [a0.s]) (by rw [List.length_append, List.length_singleton]; omega) a0 a1 a2 h0 h1 h2
    have hF : rqF ev now [a0, a1, a2] = a0.s :: rqF ev now [a1, a2] := by
      unfold rqF
      rw [List.filter_cons_of_pos (by rw [hc]), List.map_cons]
    rw [hF]
    refine ⟨f + 1, loopN_step st rfl (vals' := rqV now (q ++ [a0.s]).length (1 : Int)) (bs' := rqB own ev ((q ++ [a0.s]).map Ste.vs) [a0, a1, a2]) (by kernel_rfl) (by kernel_rfl) (by kernel_rfl) hf ?_⟩
    generalize rqF ev now [a1, a2] = F
    rw [show q ++ [a0.s] ++ F = q ++ a0.s :: F by simp]
    cases F with
    | nil => (show (seqAfter _ _ _).den = some _; kernel_rfl)
    | cons a b => (show (seqAfter _ _ _).den = some _; kernel_rfl)
theorem rqa_4_4 (own : Ck) (ev now : Int) (q : List Ste) (hq : q.length ≤ 4) (a0 a1 a2 a3 : RefE) (h0 : a0.len = a0.ts.length ∧ a0.len ≤ 1000000) (h1 : a1.len = a1.ts.length ∧ a1.len ≤ 1000000) (h2 : a2.len = a2.ts.length ∧ a2.len ≤ 1000000) (h3 : a3.len = a3.ts.length ∧ a3.len ≤ 1000000) : ∃ f, (rqLN f (rqV now q.length 4) (rqB own ev (q.map Ste.vs) [a0, a1, a2, a3])).den = some (resR 4 q.length (q ++ rqF ev now []) (!(rqF ev now []).isEmpty)) := by
  exact ⟨1, loopN_end (rqx_4 own ev now q.length (q.map Ste.vs) a0 a1 a2 a3) (by show Ex.exit 0 ≠ Ex.nrm; decide)⟩
theorem rqa_4_3 (own : Ck) (ev now : Int) (q : List Ste) (hq : q.length ≤ 3) (a0 a1 a2 a3 : RefE) (h0 : a0.len = a0.ts.length ∧ a0.len ≤ 1000000) (h1 : a1.len = a1.ts.length ∧ a1.len ≤ 1000000) (h2 : a2.len = a2.ts.length ∧ a2.len ≤ 1000000) (h3 : a3.len = a3.ts.length ∧ a3.len ≤ 1000000) : ∃ f, (rqLN f (rqV now q.length 3) (rqB own ev (q.map Ste.vs) [a0, a1, a2, a3])).den = some (resR 4 q.length (q ++ rqF ev now [a3]) (!(rqF ev now [a3]).isEmpty)) := by
  have st := (rqr_4_3 own ev now q.length (q.map Ste.vs) a0 a1 a2 a3).trans (rqT_den (n := 4) (i := 3) (by omega) h3.1 h3.2)
  cases hc : rqC ev now a3 with
  | false =>
    rw [hc] at st
    obtain ⟨f, hf⟩ := rqa_4_4 own ev now q (by omega) a0 a1 a2 a3 h0 h1 h2 h3
    have hF : rqF ev now [a3] = rqF ev now [] := by
      unfold rqF
      rw [List.filter_cons_of_neg (by rw [hc]; simp)]
    rw [hF]
    refine ⟨f + 1, loopN_step st rfl (vals' := rqV now q.length (4 : Int)) (bs' := rqB own ev (q.map Ste.vs) [a0, a1, a2, a3]) (by kernel_rfl) (by kernel_rfl) (by kernel_rfl) hf ?_⟩
    generalize rqF ev now [] = F
    cases F with
    | nil => (show (seqAfter _ _ _).den = some _; kernel_rfl)
    | cons a b => (show (seqAfter _ _ _).den = some _; kernel_rfl)
  | true =>
    rw [hc] at st
    obtain ⟨f, hf⟩ := rqa_4_4 own ev now (q ++ [a3.s]) (by rw [List.length_append, List.length_singleton]; omega) a0 a1 a2 a3 h0 h1 h2 h3
    have hF : rqF ev now [a3] = a3.s :: rqF ev now [] := by
      unfold rqF
      rw [List.filter_cons_of_pos (by rw [hc]), List.map_cons]
    rw [hF]
    refine ⟨f + 1, loopN_step st rfl (vals' := rqV now (q ++ [a3.s]).length (4 : Int)) (bs' := rqB own ev ((q ++ [a3.s]).map Ste.vs) [a0, a1, a2, a3]) (by kernel_rfl) (by kernel_rfl) (by kernel_rfl) hf ?_⟩
    generalize rqF ev now [] = F
    rw [show q ++ [a3.s] ++ F = q ++ a3.s :: F by simp]
    cases F with
    | nil => (show (seqAfter _ _ _).den = some _; kernel_rfl)
    | cons a b => (show (seqAfter _ _ _).den = some _; kernel_rfl)
theorem rqa_4_2 (own : Ck) (ev now : Int) (q : List Ste) (hq : q.length ≤ 2) (a0 a1 a2 a3 : RefE) (h0 : a0.len = a0.ts.length ∧ a0.len ≤ 1000000) (h1 : a1.len = a1.ts.length ∧ a1.len ≤ 1000000) (h2 : a2.len = a2.ts.length ∧ a2.len ≤ 1000000) (h3 : a3.len = a3.ts.length ∧ a3.len ≤ 1000000) : ∃ f, (rqLN f (rqV now q.length 2) (rqB own ev (q.map Ste.vs) [a0, a1, a2, a3])).den = some (resR 4 q.length (q ++ rqF ev now [a2, a3]) (!(rqF ev now [a2, a3]).isEmpty)) := by
  have st := (rqr_4_2 own ev now q.length (q.map Ste.vs) a0 a1 a2 a3).trans (rqT_den (n := 4) (i := 2) (by omega) h2.1 h2.2)
  cases hc : rqC ev now a2 with
  | false =>
    rw [hc] at st
    obtain ⟨f, hf⟩ := rqa_4_3 own ev now q (by omega) a0 a1 a2 a3 h0 h1 h2 h3
    have hF : rqF ev now [a2, a3] = rqF ev now [a3] := by
      unfold rqF
      rw [List.filter_cons_of_neg (by rw [hc]; simp)]
    rw [hF]
    refine ⟨f + 1, loopN_step st rfl (vals' := rqV now q.length (3 : Int)) (bs' := rqB own ev (q.map Ste.vs) [a0, a1, a2, a3]) (by kernel_rfl) (by kernel_rfl) (by kernel_rfl) hf ?_⟩
    generalize rqF ev now [a3] = F
    cases F with
    | nil => (show (seqAfter _ _ _).den = some _; kernel_rfl)
    | cons a b => (show (seqAfter _ _ _).den = some _; kernel_rfl)
  | true =>
    rw [hc] at st
    obtain ⟨f, hf⟩ := rqa_4_3 own ev now (q ++ [a2.s]) (by rw [List.length_append, List.length_singleton]; omega) a0 a1 a2 a3 h0 h1 h2 h3
    have hF : rqF ev now [a2, a3] = a2.s :: rqF ev now [a3] := by
      unfold rqF
      rw [List.filter_cons_of_pos (by rw [hc]), List.map_cons]
    rw [hF]
    refine ⟨f + 1, loopN_step st rfl (vals' := rqV now (q ++ [a2.s]).length (3 : Int)) (bs' := rqB own ev ((q ++ [a2.s]).map Ste.vs) [a0, a1, a2, a3]) (by kernel_rfl) (by kernel_rfl) (by kernel_rfl) hf ?_⟩
    generalize rqF ev now [a3] = F
    rw [show q ++ [a2.s] ++ F = q ++ a2.s :: F by simp]
    cases F with
    | nil => (show (seqAfter _ _ _).den = some _; kernel_rfl)
    | cons a b => (show (seqAfter _ _ _).den = some _; kernel_rfl)
theorem rqa_4_1 (own : Ck) (ev now : Int) (q : List Ste) (hq : q.length ≤ 1) (a0 a1 a2 a3 : RefE) (h0 : a0.len = a0.ts.length ∧ a0.len ≤ 1000000) (h1 : a1.len = a1.ts.length ∧ a1.len ≤ 1000000) (h2 : a2.len = a2.ts.length ∧ a2.len ≤ 1000000) (h3 : a3.len = a3.ts.length ∧ a3.len ≤ 1000000) : ∃ f, (rqLN f (rqV now q.length 1) (rqB own ev (q.map Ste.vs) [a0, a1, a2, a3])).den = some (resR 4 q.length (q ++ rqF ev now [a1, a2, a3]) (!(rqF ev now [a1, a2, a3]).isEmpty)) := by
  have st := (rqr_4_1 own ev now q.length (q.map Ste.vs) a0 a1 a2 a3).trans (rqT_den (n := 4) (i := 1) (by omega) h1.1 h1.2)
  cases hc : rqC ev now a1 with
  | false =>
    rw [hc] at st
    obtain ⟨f, hf⟩ := rqa_4_2 own ev now q (by omega) a0 a1 a2 a3 h0 h1 h2 h3
    have hF : rqF ev now [a1, a2, a3] = rqF ev now [a2, a3] := by
      unfold rqF
      rw [List.filter_cons_of_neg (by rw [hc]; simp)]
    rw [hF]
    refine ⟨f + 1, loopN_step st rfl (vals' := rqV now q.length (2 : Int)) (bs' := rqB own ev (q.map Ste.vs) [a0, a1, a2, a3]) (by kernel_rfl) (by kernel_rfl) (by kernel_rfl) hf ?_⟩
    generalize rqF ev now [a2, a3] = F
    cases F with
    | nil => (show (seqAfter _ _ _).den = some _; kernel_rfl)
    | cons a b => (show (seqAfter _ _ _).den = some _; kernel_rfl)
  | true =>
    rw [hc] at st
    obtain ⟨f, hf⟩ := rqa_4_2 own ev now (q ++ [a1.s]) (by rw [List.length_append, List.length_singleton]; omega) a0 a1 a2 a3 h0 h1 h2 h3
    have hF : rqF ev now [a1, a2, a3] = a1.s :: rqF ev now [a2, a3] := by
      unfold rqF
      rw [List.filter_cons_of_pos (by rw [hc]), List.map_cons]
    rw [hF]
    refine ⟨f + 1, loopN_step st rfl (vals' := rqV now (q ++ [a1.s]).length (2 : Int)) (bs' := rqB own ev ((q ++ [a1.s]).map Ste.vs) [a0, a1, a2, a3]) (by kernel_rfl) (by kernel_rfl) (by kernel_rfl) hf ?_⟩
    generalize rqF ev now [a2, a3] = F
    rw [show q ++ [a1.s] ++ F = q ++ a1.s :: F by simp]
    cases F with
    | nil => (show (seqAfter _ _ _).den = some _; kernel_rfl)
    | cons a b => (show (seqAfter _ _ _).den = some _; kernel_rfl)
theorem rqa_4_0 (own : Ck) (ev now : Int) (q : List Ste) (hq : q.length ≤ 0) (a0 a1 a2 a3 : RefE) (h0 : a0.len = a0.ts.length ∧ a0.len ≤ 1000000) (h1 : a1.len = a1.ts.length ∧ a1.len ≤ 1000000) (h2 : a2.len = a2.ts.length ∧ a2.len ≤ 1000000) (h3 : a3.len = a3.ts.length ∧ a3.len ≤ 1000000) : ∃ f, (rqLN f (rqV now q.length 0) (rqB own ev (q.map Ste.vs) [a0, a1, a2, a3])).den = some (resR 4 q.length (q ++ rqF ev now [a0, a1, a2, a3]) (!(rqF ev now [a0, a1, a2, a3]).isEmpty)) := by
  have st := (rqr_4_0 own ev now q.length (q.map Ste.vs) a0 a1 a2 a3).trans (rqT_den (n := 4) (i := 0) (by omega) h0.1 h0.2)
  cases hc : rqC ev now a0 with
  | false =>
    rw [hc] at st
    obtain ⟨f, hf⟩ := rqa_4_1 own ev now q (by omega) a0 a1 a2 a3 h0 h1 h2 h3
    have hF : rqF ev now [a0, a1, a2, a3] = rqF ev now [a1, a2, a3] := by
      unfold rqF
      rw [List.filter_cons_of_neg (by rw [hc]; simp)]
    rw [hF]
    refine ⟨f + 1, loopN_step st rfl (vals' := rqV now q.length (1 : Int)) (bs' := rqB own ev (q.map Ste.vs) [a0, a1, a2, a3]) (by kernel_rfl) (by kernel_rfl) (by kernel_rfl) hf ?_⟩
    generalize rqF ev now [a1, a2, a3] = F
    cases F with
    | nil => (show (seqAfter _ _ _).den = some _; kernel_rfl)
    | cons a b => (show (seqAfter _ _ _).den = some _; kernel_rfl)
  | true =>
    rw [hc] at st
    obtain ⟨f, hf⟩ := rqa_4_1 own ev now (q ++ [a0.s]) (by rw [List.length_append, List.length_singleton]; omega) a0 a1 a2 a3 h0 h1 h2 h3
    have hF : rqF ev now [a0, a1, a2, a3] = a0.s :: rqF ev now [a1, a2, a3] := by
      unfold rqF
      rw [List.filter_cons_of_pos (by rw [hc]), List.map_cons]
    rw [hF]
    refine ⟨f + 1, loopN_step st rfl (vals' := rqV now (q ++ [a0.s]).length (1 : Int)) (bs' := rqB own ev ((q ++ [a0.s]).map Ste.vs) [a0, a1, a2, a3]) (by kernel_rfl) (by kernel_rfl) (by kernel_rfl) hf ?_⟩
    generalize rqF ev now [a1, a2, a3] = F
    rw [show q ++ [a0.s] ++ F = q ++ a0.s :: F by simp]
    cases F with
    | nil => (show (seqAfter _ _ _).den = some _; kernel_rfl)
    | cons a b => (show (seqAfter _ _ _).den = some _; kernel_rfl)
theorem rqa_5_5 (own : Ck) (ev now : Int) (q : List Ste) (hq : q.length ≤ 5) (a0 a1 a2 a3 a4 : RefE) (h0 : a0.len = a0.ts.length ∧ a0.len ≤ 1000000) (h1 : a1.len = a1.ts.length ∧ a1.len ≤ 1000000) (h2 : a2.len = a2.ts.length ∧ a2.len ≤ 1000000) (h3 : a3.len = a3.ts.length ∧ a3.len ≤ 1000000) (h4 : a4.len = a4.ts.length ∧ a4.len ≤ 1000000) : ∃ f, (rqLN f (rqV now q.length 5) (rqB own ev (q.map Ste.vs) [a0, a1, a2, a3, a4])).den = some (resR 5 q.length (q ++ rqF ev now []) (!(rqF ev now []).isEmpty)) := by
  exact ⟨1, loopN_end (rqx_5 own ev now q.length (q.map Ste.vs) a0 a1 a2 a3 a4) (by show Ex.exit 0 ≠ Ex.nrm; decide)⟩
theorem rqa_5_4 (own : Ck) (ev now : Int) (q : List Ste) (hq : q.length ≤ 4) (a0 a1 a2 a3 a4 : RefE) (h0 : a0.len = a0.ts.length ∧ a0.len ≤ 1000000) (h1 : a1.len = a1.ts.length ∧ a1.len ≤ 1000000) (h2 : a2.len = a2.ts.length ∧ a2.len ≤ 1000000) (h3 : a3.len = a3.ts.length ∧ a3.len ≤ 1000000) (h4 : a4.len = a4.ts.length ∧ a4.len ≤ 1000000) : ∃ f, (rqLN f (rqV now q.length 4) (rqB own ev (q.map Ste.vs) [a0, a1, a2, a3, a4])).den = some (resR 5 q.length (q ++ rqF ev now [a4]) (!(rqF ev now [a4]).isEmpty)) := by
  have st := (rqr_5_4 own ev now q.length (q.map Ste.vs) a0 a1 a2 a3 a4).trans (rqT_den (n := 5) (i := 4) (by omega) h4.1 h4.2)
  cases hc : rqC ev now a4 with
  | false =>
    rw [hc] at st
    obtain ⟨f, hf⟩ := rqa_5_5 own ev now q (by omega) a0 a1 a2 a3 a4 h0 h1 h2 h3 h4
    have hF : rqF ev now [a4] = rqF ev now [] := by
      unfold rqF
      rw [List.filter_cons_of_neg (by rw [hc]; simp)]
    rw [hF]
    refine ⟨f + 1, loopN_step st rfl (vals' := rqV now q.length (5 : Int)) (bs' := rqB own ev (q.map Ste.vs) [a0, a1, a2, a3, a4]) (by kernel_rfl) (by kernel_rfl) (by kernel_rfl) hf ?_⟩
    generalize rqF ev now [] = F
    cases F with
    | nil => (show (seqAfter _ _ _).den = some _; kernel_rfl)
    | cons a b => (show (seqAfter _ _ _).den = some _; kernel_rfl)
  | true =>
    rw [hc] at st
    obtain ⟨f, hf⟩ := rqa_5_5 own ev now (q ++ [a4.s]) (by rw [List.length_append, List.length_singleton]; omega) a0 a1 a2 a3 a4 h0 h1 h2 h3 h4
    have hF : rqF ev now [a4] = a4.s :: rqF ev now [] := by
      unfold rqF
      rw [List.filter_cons_of_pos (by rw [hc]), List.map_cons]
    rw [hF]
    refine ⟨f + 1, loopN_step st rfl (vals' := rqV now (q ++ [a4.s]).length (5 : Int)) (bs' := rqB own ev ((q ++ [a4.s]).map Ste.vs) [a0, a1, a2, a3, a4]) (by kernel_rfl) (by kernel_rfl) (by kernel_rfl) hf ?_⟩
    generalize rqF ev now [] = F
    rw [show q ++ [a4.s] ++ F = q ++ a4.s :: F by simp]
    cases F with
    | nil => (show (seqAfter _ _ _).den = some _; kernel_rfl)
    | cons a b => (show (seqAfter _ _ _).den = some _; kernel_rfl)
theorem rqa_5_3 (own : Ck) (ev now : Int) (q : List Ste) (hq : q.length ≤ 3) (a0 a1 a2 a3 a4 : RefE) (h0 : a0.len = a0.ts.length ∧ a0.len ≤ 1000000) (h1 : a1.len = a1.ts.length ∧ a1.len ≤ 1000000) (h2 : a2.len = a2.ts.length ∧ a2.len ≤ 1000000) (h3 : a3.len = a3.ts.length ∧ a3.len ≤ 1000000) (h4 : a4.len = a4.ts.length ∧ a4.len ≤ 1000000) : ∃ f, (rqLN f (rqV now q.length 3) (rqB own ev (q.map Ste.vs) [a0, a1, a2, a3, a4])).den = some (resR 5 q.length (q ++ rqF ev now [a3, a4]) (!(rqF ev now [a3, a4]).isEmpty)) := by
  have st := (rqr_5_3 own ev now q.length (q.map Ste.vs) a0 a1 a2 a3 a4).trans (rqT_den (n := 5) (i := 3) (by omega) h3.1 h3.2)
  cases hc : rqC ev now a3 with
  | false =>
    rw [hc] at st
    obtain ⟨f, hf⟩ := rqa_5_4 own ev now q (by omega) a0 a1 a2 a3 a4 h0 h1 h2 h3 h4
    have hF : rqF ev now [a3, a4] = rqF ev now [a4] := by
      unfold rqF
      rw [List.filter_cons_of_neg (by rw [hc]; simp)]
    rw [hF]
    refine ⟨f + 1, loopN_step st rfl (vals' := rqV now q.length (4 : Int)) (bs' := rqB own ev (q.map Ste.vs) [a0, a1, a2, a3, a4]) (by kernel_rfl) (by kernel_rfl) (by kernel_rfl) hf ?_⟩
    generalize rqF ev now [a4] = F
    cases F with
    | nil => (show (seqAfter _ _ _).den = some _; kernel_rfl)
    | cons a b => (show (seqAfter _ _ _).den = some _; kernel_rfl)
  | true =>
    rw [hc] at st
    obtain ⟨f, hf⟩ := rqa_5_4 own ev now (q ++ [a3.s]) (by rw [List.length_append, List.length_singleton]; omega) a0 a1 a2 a3 a4 h0 h1 h2 h3 h4
    have hF : rqF ev now [a3, a4] = a3.s :: rqF ev now [a4] := by
      unfold rqF
      rw [List.filter_cons_of_pos (by rw [hc]), List.map_cons]
    rw [hF]
    refine ⟨f + 1, loopN_step st rfl (vals' := rqV now (q ++ [a3.s]).length (4 : Int)) (bs' := rqB own ev ((q ++ [a3.s]).map Ste.vs) [a0, a1, a2, a3, a4]) (by kernel_rfl) (by kernel_rfl) (by kernel_rfl) hf ?_⟩
    generalize rqF ev now [a4] = F
    rw [show q ++ [a3.s] ++ F = q ++ a3.s :: F by simp]
    cases F with
    | nil => (show (seqAfter _ _ _).den = some _; kernel_rfl)
    | cons a b => (show (seqAfter _ _ _).den = some _; kernel_rfl)
theorem rqa_5_2 (own : Ck) (ev now : Int) (q : List Ste) (hq : q.length ≤ 2) (a0 a1 a2 a3 a4 : RefE) (h0 : a0.len = a0.ts.length ∧ a0.len ≤ 1000000) (h1 : a1.len = a1.ts.length ∧ a1.len ≤ 1000000) (h2 : a2.len = a2.ts.length ∧ a2.len ≤ 1000000) (h3 : a3.len = a3.ts.length ∧ a3.len ≤ 1000000) (h4 : a4.len = a4.ts.length ∧ a4.len ≤ 1000000) : ∃ f, (rqLN f (rqV now q.length 2) (rqB own ev (q.map Ste.vs) [a0, a1, a2, a3, a4])).den = some (resR 5 q.length (q ++ rqF ev now [a2, a3, a4]) (!(rqF ev now [a2, a3, a4]).isEmpty)) := by
  have st := (rqr_5_2 own ev now q.length (q.map Ste.vs) a0 a1 a2 a3 a4).trans (rqT_den (n := 5) (i := 2) (by omega) h2.1 h2.2)
  cases hc : rqC ev now a2 with
  | false =>
    rw [hc] at st
    obtain ⟨f, hf⟩ := rqa_5_3 own ev now q (by omega) a0 a1 a2 a3 a4 h0 h1 h2 h3 h4
    have hF : rqF ev now [a2, a3, a4] = rqF ev now [a3, a4] := by
      unfold rqF
      rw [List.filter_cons_of_neg (by rw [hc]; simp)]
    rw [hF]
    refine ⟨f + 1, loopN_step st rfl (vals' := rqV now q.length (3 : Int)) (bs' := rqB own ev (q.map Ste.vs) [a0, a1, a2, a3, a4]) (by kernel_rfl) (by kernel_rfl) (by kernel_rfl) hf ?_⟩
    generalize rqF ev now [a3, a4] = F
    cases F with
    | nil => (show (seqAfter _ _ _).den = some _; kernel_rfl)
    | cons a b => (show (seqAfter _ _ _).den = some _; kernel_rfl)
  | true =>
    rw [hc] at st
    obtain ⟨f, hf⟩ := rqa_5_3 own ev now (q ++ [a2.s]) (by rw [List.length_append, List.length_singleton]; omega) a0 a1 a2 a3 a4 h0 h1 h2 h3 h4
    have hF : rqF ev now [a2, a3, a4] = a2.s :: rqF ev now [a3, a4] := by
      unfold rqF
      rw [List.filter_cons_of_pos (by rw [hc]), List.map_cons]
    rw [hF]
    refine ⟨f + 1, loopN_step st rfl (vals' := rqV now (q ++ [a2.s]).length (3 : Int)) (bs' := rqB own ev ((q ++ [a2.s]).map Ste.vs) [a0, a1, a2, a3, a4]) (by kernel_rfl) (by kernel_rfl) (by kernel_rfl) hf ?_⟩
    generalize rqF ev now [a3, a4] = F
    rw [show q ++ [a2.s] ++ F = q ++ a2.s :: F by simp]
    cases F with
    | nil => (show (seqAfter _ _ _).den = some _; kernel_rfl)
    | cons a b => (show (seqAfter _ _ _).den = some _; kernel_rfl)
theorem rqa_5_1 (own : Ck) (ev now : Int) (q : List Ste) (hq : q.length ≤ 1) (a0 a1 a2 a3 a4 : RefE) (h0 : a0.len = a0.ts.length ∧ a0.len ≤ 1000000) (h1 : a1.len = a1.ts.length ∧ a1.len ≤ 1000000) (h2 : a2.len = a2.ts.length ∧ a2.len ≤ 1000000) (h3 : a3.len = a3.ts.length ∧ a3.len ≤ 1000000) (h4 : a4.len = a4.ts.length ∧ a4.len ≤ 1000000) : ∃ f, (rqLN f (rqV now q.length 1) (rqB own ev (q.map Ste.vs) [a0, a1, a2, a3, a4])).den = some (resR 5 q.length (q ++ rqF ev now [a1, a2, a3, a4]) (!(rqF ev now [a1, a2, a3, a4]).isEmpty)) := by
  have st := (rqr_5_1 own ev now q.length (q.map Ste.vs) a0 a1 a2 a3 a4).trans (rqT_den (n := 5) (i := 1) (by omega) h1.1 h1.2)
  cases hc : rqC ev now a1 with
  | false =>
    rw [hc] at st
    obtain ⟨f, hf⟩ := rqa_5_2 own ev now q (by omega) a0 a1 a2 a3 a4 h0 h1 h2 h3 h4
    have hF : rqF ev now [a1, a2, a3, a4] = rqF ev now [a2, a3, a4] := by
      unfold rqF
      rw [List.filter_cons_of_neg (by rw [hc]; simp)]
    rw [hF]
    refine ⟨f + 1, loopN_step st rfl (vals' := rqV now q.length (2 : Int)) (bs' := rqB own ev (q.map Ste.vs) [a0, a1, a2, a3, a4]) (by kernel_rfl) (by kernel_rfl) (by kernel_rfl) hf ?_⟩
    generalize rqF ev now [a2, a3, a4] = F
    cases F with
    | nil => (show (seqAfter _ _ _).den = some _; kernel_rfl)
    | cons a b => (show (seqAfter _ _ _).den = some _; kernel_rfl)
  | true =>
    rw [hc] at st
    obtain ⟨f, hf⟩ := rqa_5_2 own ev now (q ++ [a1.s]) (by rw [List.length_append, List.length_singleton]; omega) a0 a1 a2 a3 a4 h0 h1 h2 h3 h4
    have hF : rqF ev now [a1, a2, a3, a4] = a1.s :: rqF ev now [a2, a3, a4] := by
      unfold rqF
      rw [List.filter_cons_of_pos (by rw [hc]), List.map_cons]
    rw [hF]
    refine ⟨f + 1, loopN_step st rfl (vals' := rqV now (q ++ [a1.s]).length (2 : Int)) (bs' := rqB own ev ((q ++ [a1.s]).map Ste.vs) [a0, a1, a2, a3, a4]) (by kernel_rfl) (by kernel_rfl) (by kernel_rfl) hf ?_⟩
    generalize rqF ev now [a2, a3, a4] = F
    rw [show q ++ [a1.s] ++ F = q ++ a1.s :: F by simp]
    cases F with
    | nil => (show (seqAfter _ _ _).den = some _; kernel_rfl)
    | cons a b => (show (seqAfter _ _ _).den = some _; kernel_rfl)
theorem rqa_5_0 (own : Ck) (ev now : Int) (q : List Ste) (hq : q.length ≤ 0) (a0 a1 a2 a3 a4 : RefE) (h0 : a0.len = a0.ts.length ∧ a0.len ≤ 1000000) (h1 : a1.len = a1.ts.length ∧ a1.len ≤ 1000000) (h2 : a2.len = a2.ts.length ∧ a2.len ≤ 1000000) (h3 : a3.len = a3.ts.length ∧ a3.len ≤ 1000000) (h4 : a4.len = a4.ts.length ∧ a4.len ≤ 1000000) : ∃ f, (rqLN f (rqV now q.length 0) (rqB own ev (q.map Ste.vs) [a0, a1, a2, a3, a4])).den = some (resR 5 q.length (q ++ rqF ev now [a0, a1, a2, a3, a4]) (!(rqF ev now [a0, a1, a2, a3, a4]).isEmpty)) := by
  have st := (rqr_5_0 own ev now q.length (q.map Ste.vs) a0 a1 a2 a3 a4).trans (rqT_den (n := 5) (i := 0) (by omega) h0.1 h0.2)
  cases hc : rqC ev now a0 with
  | false =>
    rw [hc] at st
    obtain ⟨f, hf⟩ := rqa_5_1 own ev now q (by omega) a0 a1 a2 a3 a4 h0 h1 h2 h3 h4
    have hF : rqF ev now [a0, a1, a2, a3, a4] = rqF ev now [a1, a2, a3, a4] := by
      unfold rqF
      rw [List.filter_cons_of_neg (by rw [hc]; simp)]
    rw [hF]
    refine ⟨f + 1, loopN_step st rfl (vals' := rqV now q.length (1 : Int)) (bs' := rqB own ev (q.map Ste.vs) [a0, a1, a2, a3, a4]) (by kernel_rfl) (by kernel_rfl) (by kernel_rfl) hf ?_⟩
    generalize rqF ev now [a1, a2, a3, a4] = F
    cases F with
    | nil => (show (seqAfter _ _ _).den = some _; kernel_rfl)
    | cons a b => (show (seqAfter _ _ _).den = some _; kernel_rfl)
  | true =>
    rw [hc] at st
    obtain ⟨f, hf⟩ := rqa_5_1 own ev now (q ++ [a0.s]) (by rw [List.length_append, List.length_singleton]; omega) a0 a1 a2 a3 a4 h0 h1 h2 h3 h4
    have hF : rqF ev now [a0, a1, a2, a3, a4] = a0.s :: rqF ev now [a1, a2, a3, a4] := by
      unfold rqF
      rw [List.filter_cons_of_pos (by rw [hc]), List.map_cons]
    rw [hF]
    refine ⟨f + 1, loopN_step st rfl (vals' := rqV now (q ++ [a0.s]).length (1 : Int)) (bs' := rqB own ev ((q ++ [a0.s]).map Ste.vs) [a0, a1, a2, a3, a4]) (by kernel_rfl) (by kernel_rfl) (by kernel_rfl) hf ?_⟩
    generalize rqF ev now [a1, a2, a3, a4] = F
    rw [show q ++ [a0.s] ++ F = q ++ a0.s :: F by simp]
    cases F with
    | nil => (show (seqAfter _ _ _).den = some _; kernel_rfl)
    | cons a b => (show (seqAfter _ _ _).den = some _; kernel_rfl)
end Go.Proofs.Ytgdalboilghciaa

set_option maxRecDepth 100000
set_option linter.unusedSimpArgs false
set_option linter.unusedVariables false
namespace Go.Proofs.Ytgdalboilghciaa
open Go.Rx
noncomputable def rqLf (n : Nat) (A : List V) (B : List Blk) (F : List Ste) (vals : List V) (bs : List Blk) : Tree LRes := .need (eqAB vals A bs B) (.ite F.isEmpty (.leaf (resR n 0 [] false)) (.leaf (resR n 0 F true)))
noncomputable abbrev rqLs (n : Nat) (A : List V) (B : List Blk) (F : List Ste) : LSpec := ⟨80, [1, 2, 5, 6], [5], rqLf n A B F⟩
theorem rq_loop {n : Nat} {A : List V} {B : List Blk} {F : List Ste} (h : ∃ f, (rqLN f A B).den = some (resR n 0 F (!F.isEmpty))) : LoopOK P (loopAt Try.f19 0) (rqLs n A B F) := by
  refine loop_ok (GammaOK.nil P) hm (Λ := loopsOf []) (LoopsOK.nil (by kernel_rfl)) _ ?_
  intro vals bs r hr
  change (rqLf n A B F vals bs).den = some r at hr
  unfold rqLf at hr
  rw [den_need] at hr
  obtain ⟨he, hr⟩ := hr
  have he : vals = A ∧ bs = B := by
    unfold eqAB at he
    exact @of_decide_eq_true _ (Classical.propDecidable _) he
  obtain ⟨rfl, rfl⟩ := he
  obtain ⟨f, hf⟩ := h
  refine ⟨f, hf.trans ?_⟩
  rw [← hr]
  cases hF : F.isEmpty with
  | true => rw [List.isEmpty_iff.1 hF]; rfl
  | false => rfl
noncomputable abbrev rqFn (n : Nat) (own : Ck) (ev now : Int) (es : RTab) (F : List Ste) (a : List V) (b : List Blk) : Tree Res := fFn P (specsOf []) (loopsOf [(3, rqLs n (rqV now 0 0) (rqB own ev [] es) F)]) Try.f19 a b
def rqR (es : RTab) (F : List Ste) : Res := ⟨.sl (refB es).length 0 0 32 F.length none, noneL (refB es), [.rows stK (F.map Ste.vs)]⟩
def rqAns (own : Ck) (ev now : Int) (es : RTab) : Prop := ∃ s, SpecOK P 19 s ∧ (s [refV own ev es, .int .i64 now] (refB es)).denN = some (Res.nrm (rqR es (rqF ev now es)))
theorem rq_fin {n : Nat} {own : Ck} {ev now : Int} {es : RTab} (h : ∃ f, (rqLN f (rqV now 0 0) (rqB own ev [] es)).den = some (resR n 0 (rqF ev now es) (!(rqF ev now es).isEmpty)))
    (hx : ∀ F, Tree.denN (rqFn n own ev now es F [refV own ev es, .int .i64 now] (refB es)) = Tree.denN (.ite (eqAB (rqV now 0 0) (rqV now 0 0) (rqB own ev [] es) (rqB own ev [] es)) (.ite F.isEmpty (.leaf (rqR es [])) (.leaf (rqR es F))) .fail)) : rqAns own ev now es := by
  refine ⟨rqFn n own ev now es (rqF ev now es), inl_ok (GammaOK.nil P) hm Try.func19 (by kernel_rfl) (LoopsOK.one (by kernel_rfl) (rq_loop h)), (hx _).trans ?_⟩
  rw [eqAB_self]
  cases hF : (rqF ev now es).isEmpty with
  | true => rw [List.isEmpty_iff.1 hF]; rfl
  | false => rfl
theorem rqf_0 (own : Ck) (ev now : Int) : Tree.denN (rqFn 0 own ev now [] [] [refV own ev [], .int .i64 now] (refB [])) = Tree.denN (.ite (eqAB (rqV now 0 0) (rqV now 0 0) (rqB own ev [] []) (rqB own ev [] [])) (.ite true (.leaf (rqR [] [])) .fail) .fail) := by
  kernel_rfl
theorem rq_0 (own : Ck) (ev now : Int) : rqAns own ev now [] := by
  refine ⟨rqFn 0 own ev now [] [], inl_ok (GammaOK.nil P) hm Try.func19 (by kernel_rfl) (LoopsOK.one (by kernel_rfl) (rq_loop (rqa_0_0 own ev now [] (Nat.zero_le _)))), (rqf_0 own ev now).trans ?_⟩
  rw [eqAB_self]
  rfl
theorem rqf_1 (own : Ck) (ev now : Int) (F : List Ste) (a0 : RefE) : Tree.denN (rqFn 1 own ev now [a0] F [refV own ev [a0], .int .i64 now] (refB [a0])) = Tree.denN (.ite (eqAB (rqV now 0 0) (rqV now 0 0) (rqB own ev [] [a0]) (rqB own ev [] [a0])) (.ite F.isEmpty (.leaf (rqR [a0] [])) (.leaf (rqR [a0] F))) .fail) := by
  kernel_rfl
theorem rq_1 (own : Ck) (ev now : Int) (a0 : RefE) (h0 : a0.len = a0.ts.length ∧ a0.len ≤ 1000000) : rqAns own ev now [a0] := rq_fin (n := 1) (rqa_1_0 own ev now [] (Nat.zero_le _) a0 h0) (fun F => rqf_1 own ev now F a0)
theorem rqf_2 (own : Ck) (ev now : Int) (F : List Ste) (a0 a1 : RefE) : Tree.denN (rqFn 2 own ev now [a0, a1] F [refV own ev [a0, a1], .int .i64 now] (refB [a0, a1])) = Tree.denN (.ite (eqAB (rqV now 0 0) (rqV now 0 0) (rqB own ev [] [a0, a1]) (rqB own ev [] [a0, a1])) (.ite F.isEmpty (.leaf (rqR [a0, a1] [])) (.leaf (rqR [a0, a1] F))) .fail) := by
  kernel_rfl
theorem rq_2 (own : Ck) (ev now : Int) (a0 a1 : RefE) (h0 : a0.len = a0.ts.length ∧ a0.len ≤ 1000000) (h1 : a1.len = a1.ts.length ∧ a1.len ≤ 1000000) : rqAns own ev now [a0, a1] := rq_fin (n := 2) (rqa_2_0 own ev now [] (Nat.zero_le _) a0 a1 h0 h1) (fun F => rqf_2 own ev now F a0 a1)
theorem rqf_3 (own : Ck) (ev now : Int) (F : List Ste) (a0 a1 a2 : RefE) : Tree.denN (rqFn 3 own ev now [a0, a1, a2] F [refV own ev [a0, a1, a2], .int .i64 now] (refB [a0, a1, a2])) = Tree.denN (.ite (eqAB (rqV now 0 0) (rqV now 0 0) (rqB own ev [] [a0, a1, a2]) (rqB own ev [] [a0, a1, a2])) (.ite F.isEmpty (.leaf (rqR [a0, a1, a2] [])) (.leaf (rqR [a0, a1, a2] F))) .fail) := by
  kernel_rfl
theorem rq_3 (own : Ck) (ev now : Int) (a0 a1 a2 : RefE) (h0 : a0.len = a0.ts.length ∧ a0.len ≤ 1000000) (h1 : a1.len = a1.ts.length ∧ a1.len ≤ 1000000) (h2 : a2.len = a2.ts.length ∧ a2.len ≤ 1000000) : rqAns own ev now [a0, a1, a2] := rq_fin (n := 3) (rqa_3_0 own ev now [] (Nat.zero_le _) a0 a1 a2 h0 h1 h2) (fun F => rqf_3 own ev now F a0 a1 a2)
theorem rqf_4 (own : Ck) (ev now : Int) (F : List Ste) (a0 a1 a2 a3 : RefE) : Tree.denN (rqFn 4 own ev now [a0, a1, a2, a3] F [refV own ev [a0, a1, a2, a3], .int .i64 now] (refB [a0, a1, a2, a3])) = Tree.denN (.ite (eqAB (rqV now 0 0) (rqV now 0 0) (rqB own ev [] [a0, a1, a2, a3]) (rqB own ev [] [a0, a1, a2, a3])) (.ite F.isEmpty (.leaf (rqR [a0, a1, a2, a3] [])) (.leaf (rqR [a0, a1, a2, a3] F))) .fail) := by
  kernel_rfl
theorem rq_4 (own : Ck) (ev now : Int) (a0 a1 a2 a3 : RefE) (h0 : a0.len = a0.ts.length ∧ a0.len ≤ 1000000) (h1 : a1.len = a1.ts.length ∧ a1.len ≤ 1000000) (h2 : a2.len = a2.ts.length ∧ a2.len ≤ 1000000) (h3 : a3.len = a3.ts.length ∧ a3.len ≤ 1000000) : rqAns own ev now [a0, a1, a2, a3] := rq_fin (n := 4) (rqa_4_0 own ev now [] (Nat.zero_le _) a0 a1 a2 a3 h0 h1 h2 h3) (fun F => rqf_4 own ev now F a0 a1 a2 a3)
theorem rqf_5 (own : Ck) (ev now : Int) (F : List Ste) (a0 a1 a2 a3 a4 : RefE) : Tree.denN (rqFn 5 own ev now [a0, a1, a2, a3, a4] F [refV own ev [a0, a1, a2, a3, a4], .int .i64 now] (refB [a0, a1, a2, a3, a4])) = Tree.denN (.ite (eqAB (rqV now 0 0) (rqV now 0 0) (rqB own ev [] [a0, a1, a2, a3, a4]) (rqB own ev [] [a0, a1, a2, a3, a4])) (.ite F.isEmpty (.leaf (rqR [a0, a1, a2, a3, a4] [])) (.leaf (rqR [a0, a1, a2, a3, a4] F))) .fail) := by
  kernel_rfl
theorem rq_5 (own : Ck) (ev now : Int) (a0 a1 a2 a3 a4 : RefE) (h0 : a0.len = a0.ts.length ∧ a0.len ≤ 1000000) (h1 : a1.len = a1.ts.length ∧ a1.len ≤ 1000000) (h2 : a2.len = a2.ts.length ∧ a2.len ≤ 1000000) (h3 : a3.len = a3.ts.length ∧ a3.len ≤ 1000000) (h4 : a4.len = a4.ts.length ∧ a4.len ≤ 1000000) : rqAns own ev now [a0, a1, a2, a3, a4] := rq_fin (n := 5) (rqa_5_0 own ev now [] (Nat.zero_le _) a0 a1 a2 a3 a4 h0 h1 h2 h3 h4) (fun F => rqf_5 own ev now F a0 a1 a2 a3 a4)
theorem rq_ans (own : Ck) (ev now : Int) : ∀ es : RTab, es.length ≤ 5 → (∀ e ∈ es, e.len = e.ts.length ∧ e.len ≤ 1000000) → rqAns own ev now es := by
  intro es hn h
  rcases es with _ | ⟨a, _ | ⟨b, _ | ⟨c, _ | ⟨d, _ | ⟨e, _ | ⟨f, l⟩⟩⟩⟩⟩⟩
  · exact rq_0 own ev now
  · exact rq_1 own ev now a (h a (by simp))
  · exact rq_2 own ev now a b (h a (by simp)) (h b (by simp))
  · exact rq_3 own ev now a b c (h a (by simp)) (h b (by simp)) (h c (by simp))
  · exact rq_4 own ev now a b c d (h a (by simp)) (h b (by simp)) (h c (by simp)) (h d (by simp))
  · exact rq_5 own ev now a b c d e (h a (by simp)) (h b (by simp)) (h c (by simp)) (h d (by simp)) (h e (by simp))
  · simp at hn
end Go.Proofs.Ytgdalboilghciaa
